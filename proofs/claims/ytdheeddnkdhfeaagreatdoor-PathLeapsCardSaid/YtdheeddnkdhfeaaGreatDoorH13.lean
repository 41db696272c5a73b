/- Parts of the proof: Yd, Pp, AsL, RoP, RoQ, RfC, RoM, RoR. -/
import Derived.Test.YtdheeddnkdhfeaaGreatDoorH12
namespace Go.Proofs.YtdheeddnkdhfeaaGreatDoor
open Go.RowKit Go.Proofs.Tryz
def Opn (N:Qam)(mk:List Bool)(a b:Nat)(v:Int)(L:List Nat):Prop:=(∃ p c e l,Qed (StA N mk) a p c l∧OuA N p b e∧v=c+e∧L=l ++[b])∧L.Nodup
section
variable {N:Qam} {l lb:List Int} {s to:Nat} {v:Int} {bs:List Nat} {cs:List Int}
theorem Opn.lt {mk:List Bool}{a b:Nat}{L:List Nat}(h:Opn N mk a b v L):∀ q∈L,q<N.ar.length:=by
 obtain ⟨⟨p,c,e,l,h1,h2,_,rfl⟩,_⟩:=h;intro q hq;rcases List.mem_append.1 hq with h3|h3
 {obtain ⟨_,_,h4⟩:=h1.mem h3;exact h4.lt};{rw [List.mem_singleton] at h3;subst h3;obtain ⟨_,y,_,hy,_⟩:=Qbm h2.1;exact (Zs hy).1}
theorem Opn.len {mk:List Bool}{a b:Nat}{L:List Nat}(h:Opn N mk a b v L):1≤L.length∧L.length≤N.ar.length:=by refine ⟨?_,Qfz _ _ h.2 h.lt⟩;obtain ⟨⟨_,_,_,l,_,_,_,rfl⟩,_⟩:=h;simp
structure Way (St:Qbf) (s to:Nat) (v:Int) (bs:List Nat) (cs:List Int):Prop where
 f:Fst St s bs cs
 last:(s::bs)[bs.length]?=some to
 cost:((0:Int)::cs)[bs.length]?=some v
theorem Vi.way {St:Qbf}{bf:List Int}{dn:Nat→Option Int}(h:Vi St s bf dn to v bs cs):Way St s to v bs cs:=⟨h.fst,h.last.2.1,h.last.2.2⟩
theorem Way.pos {St:Qbf}(h:Way St s to v bs cs)(hne:s≠to):0<bs.length:=by
 rcases Nat.eq_zero_or_pos bs.length with h1|h1
 {have:=h.last;rw [h1] at this;simp at this;exact absurd this hne};{exact h1}
theorem Way.at_ {St:Qbf}(h:Way St s to v bs cs){i:Nat}(hi:i<bs.length):∃ a b c d,(s::bs)[i]?=some a∧bs[i]?=some b∧((0:Int)::cs)[i]?=some c∧St a b d∧cs[i]?=some (c+d):=by obtain ⟨a,ha⟩:∃ a,(s::bs)[i]?=some a:=⟨_,Zg (by simp;omega)⟩;obtain ⟨b,hb⟩:∃ b,bs[i]?=some b:=⟨_,Zg hi⟩;obtain ⟨c,hc⟩:∃ c,((0:Int)::cs)[i]?=some c:=⟨_,Zg (by have:=h.f.len;simp;omega)⟩;obtain ⟨d,h1,h2⟩:=h.f.st i a b c ha hb hc;exact ⟨a,b,c,d,ha,hb,hc,h1,h2⟩
theorem Way.to_iff {St:Qbf}(h:Way St s to v bs cs)(hne:s≠to){i:Nat}{b:Nat} (hb:bs[i]?=some b):b=to↔i+1=bs.length:=by
 have hi:=(Zs hb).1;have hb':(s::bs)[i+1]?=some b:=by rw [List.getElem?_cons_succ];exact hb
 constructor;{intro e;subst e;exact (List.getElem?_inj (Zs hb').1 h.f.nd).1 (hb'.trans h.last.symm)};{intro e;rw [e] at hb';exact Yv (hb'.symm.trans h.last)}
theorem Way.lt {St:Qbf}(h:Way St s to v bs cs)(hst:∀ a b d,St a b d→b<N.ar.length):∀ q∈bs,q<N.ar.length:=fun q hq=>by obtain ⟨i,hi⟩:=Yr hq;obtain ⟨a,b,c,d,_,hb,_,hs,_⟩:=h.at_ (Zs hi).1;rw [hi] at hb;cases hb;exact hst a q d hs
theorem Way.len {St:Qbf}(h:Way St s to v bs cs)(hst:∀ a b d,St a b d→b<N.ar.length):bs.length≤N.ar.length:=Qfz _ _ (List.nodup_cons.1 h.f.nd).2 (h.lt hst)
theorem Qle {l:List Nat}{i b:Nat} (h:l[i]?=some b):l.take (i+1)=l.take i ++[b]:=by rw [List.take_add_one,h];rfl
theorem Way.opn0 (hok:Qap N){c:Int}(hl:l.length=N.vs.length)(hh:Qgz N l c s to v) (h:Way (StQ N l c to (PrT N)) s to v bs cs):Opn N (Qbv l c) s to v bs:=by
 have key:∀ i,i<bs.length→∃ a c',(s::bs)[i]?=some a∧((0:Int)::cs)[i]?=some c'∧a≠to∧Qed (StA N (Qbv l c)) s a c' (bs.take i)∧∃ y,N.ar[a]?=some y∧Qaa l y.2.1=c:=by
  intro i
  induction i with
  | zero =>intro _;obtain ⟨y,hy,_,h2⟩:=hh.sy;exact ⟨s,0,rfl,rfl,hh.ne,.start,y,hy,h2⟩
  | succ i ih =>intro hi;obtain ⟨a,c',ha,hc,hat,hr,x,hx,hxc⟩:=ih (by omega);obtain ⟨a',b,c'',d,ha',hb,hc',hs,hcs⟩:=h.at_ (show i<bs.length by omega);rw [ha] at ha';cases ha';rw [hc] at hc';cases hc';(have hbt:b≠to:=fun e=>by have:=(h.to_iff hh.ne hb).1 e;omega);obtain ⟨_,pr,rfl,y,hy,hfin,hst⟩:=hs;obtain ⟨x',y',hx',hy',em⟩:=Qbm hfin;rw [hx] at hx';cases hx';rw [hy] at hy';cases hy';(rcases hst with ⟨e,_⟩|⟨_,h3,h4,h5,rfl⟩);{exact absurd e hbt};{refine ⟨b,_,by rw [List.getElem?_cons_succ];exact hb,by rw [List.getElem?_cons_succ];exact hcs,hbt,?_,y,hy,h4⟩;rw [Qle hb];exact hr.step ((Qca hok hl).2 ⟨x,y,hx,hy,em,hfin,h5,h3,h4,rfl⟩)}
 have hp:=h.pos hh.ne;obtain ⟨n,hn⟩:∃ n,bs.length=n+1:=⟨bs.length-1,by omega⟩;obtain ⟨a,c',ha,hc,hat,hr,x,hx,hxc⟩:=key n (by omega);obtain ⟨a',b,c'',d,ha',hb,hc',hs,hcs⟩:=h.at_ (show n<bs.length by omega);rw [ha] at ha';cases ha';rw [hc] at hc';cases hc';have hbt:b=to:=(h.to_iff hh.ne hb).2 (by omega);subst hbt;have hv:v=c'+d:=by{have:=h.cost;rw [hn,List.getElem?_cons_succ,hcs] at this;exact (Yv this).symm};obtain ⟨_,pr,rfl,y,hy,hfin,hst⟩:=hs;rcases hst with ⟨_,rfl⟩|⟨g,_⟩
 {refine ⟨⟨a,c',_,bs.take n,hr,⟨hfin,rfl⟩,hv,?_⟩,(List.nodup_cons.1 h.f.nd).2⟩;rw [←Qle hb,←hn,List.take_length]};{exact absurd rfl g}
end
/-! Above level 1. -/
structure OwR (N:Qam) (l lb:List Int) (c:Nat) (s to:Nat) (v:Int) (bs:List Nat) (cs:List Int) (m:Nat) (L:List Nat):Prop where
 row:m<bs.length→∃ a e,(s::bs)[m]?=some a∧((0:Int)::cs)[m]?=some e∧Qed (StA N (Qbv l c)) s a e L
 fin:m=bs.length→Opn N (Qbv l c) s to v L
 nd:L.Nodup
 mem:∀ q∈L,(∃ i,i<m∧bs[i]?=some q)∨(∃ i a y z g e e',i<m∧(s::bs)[i]?=some a∧N.ar[a]?=some y∧N.ar[q]?=some z∧Qaa lb z.1=Qaa lb y.2.1∧Qaa lb z.2.1=Qaa lb y.2.1 ∧
  Rch (StA N (Qbv lb (Qaa lb y.2.1))) a q g∧((0:Int)::cs)[i]?=some e∧cs[i]?=some e'∧e+g≤e')
section
variable {N:Qam} {l lb:List Int} {c:Nat} {x:Qan} {s to:Nat} {v:Int} {bs:List Nat} {cs:List Int} {m:Nat} {L A:List Nat}
theorem OwR.init (hp:0<bs.length):OwR N l lb c s to v bs cs 0 [] :=
 ⟨fun _=>⟨s,0,rfl,rfl,.start⟩,fun e=>by omega,by simp,fun q hq=>by cases hq⟩
theorem Fst.up {St:Qbf}(h:Fst St s bs cs)(h0:∀ a b d,St a b d→0≤d):∀ (k i:Nat) (e e':Int),((0:Int)::cs)[i]?=some e→((0:Int)::cs)[i+k]?=some e'→e≤e'
 | 0,i,e,e',h1,h2=>by
  rw [Nat.add_zero,h1] at h2;cases h2;exact Int.le_refl _
 | k+1,i,e,e',h1,h2=>by
  have hl:=h.len;have h3:=(Zs h2).1;rw [List.length_cons] at h3;obtain ⟨f,hf⟩:∃ f,((0:Int)::cs)[i+k]?=some f:=⟨_,Zg (by rw [List.length_cons];omega)⟩;obtain ⟨a,ha⟩:∃ a,(s::bs)[i+k]?=some a:=⟨_,Zg (by rw [List.length_cons];omega)⟩;obtain ⟨b,hb⟩:∃ b,bs[i+k]?=some b:=⟨_,Zg (by omega)⟩;obtain ⟨d,h4,h5⟩:=h.st (i+k) a b f ha hb hf;have:=Fst.up h h0 k i e f h1 hf;have:=h0 a b d h4;rw [←Nat.add_assoc,List.getElem?_cons_succ,h5] at h2;cases h2;omega
theorem kid_row (h:Qqn N l lb c x){a p:Nat}{y:Tri}{d:Int}{r:List Nat} (hy:N.ar[a]?=some y) (hc:Qaa l y.2.1=c) (hr:Qed (StA N (Qbv lb (Qaa lb y.2.1))) a p d r):Qed (StA N (Qbv l c)) a p d r:=by
 induction hr with
 | start=>exact .start
 | step h1 h2 ih =>have h3:=(Qrm h.ok h.hl h.hb h.hn hy hc (Rch.start.step h2 |> fun _=>(h1.rch.step h2)));refine ih.step ?_;obtain ⟨z,w,hz,hw,e1,h5,h6,h7,h8,rfl⟩:=(Qca h.ok h.hb).1 h2;have m1:=Zm hy;have m2:=Zm hw;refine (Qca h.ok h.hl).2 ⟨z,w,hz,hw,e1,h5,h6,?_,?_,rfl⟩;{rw [←Qhx h.ok h.hl h.hb h.hn m1 y.2.1 w.1 rfl (.inr rfl) m2 h7.symm];exact hc};{rw [←Qhx h.ok h.hl h.hb h.hn m1 y.2.1 w.2.1 rfl (.inl rfl) m2 h8.symm];exact hc}
theorem OwR.next (h:Qqn N l lb c x)(hh:Qgz N l c s to v) (hw:Way (StQ N l c to (Qcu N lb)) s to v bs cs) (hm:m<bs.length) (ho:OwR N l lb c s to v bs cs m L) {a b:Nat} {y:Tri} {pr:Int} (ha:(s::bs)[m]?=some a) (hb:bs[m]?=some b) (hy:N.ar[a]?=some y)
 (hpr:Qet N (Qbv lb (Qaa lb y.2.1)) a b pr) (hA:Opn N (Qbv lb (Qaa lb y.2.1)) a b pr A):OwR N l lb c s to v bs cs (m+1) (L ++A):=by
 have hok:=h.ok;have hpos:∀ p q d,StQ N l c to (Qcu N lb) p q d→0≤d:=(h.okK hh).pos
 -- every arc that is gone over enters a kid of the cell
 have hin:∀ i a,i<bs.length→(s::bs)[i]?=some a→Qci N l lb c a:=by
  intro i
  induction i with
  | zero=>intro a _ ha;cases ha;exact h.start hh
  | succ i ih =>intro a hi ha;rw [List.getElem?_cons_succ] at ha;obtain ⟨a',b',c',d,ha',hb',_,hs,_⟩:=hw.at_ (show i<bs.length by omega);rw [ha] at hb';cases hb';exact (stO_c h (ih a' (by omega) ha') (fun e=>by have:=(hw.to_iff hh.ne ha).1 e;omega) hs).2.2
 have hina:=hin m a hm ha;obtain ⟨y',hy',hcr,hcy⟩:=id hina;rw [hy] at hy';cases hy';obtain ⟨a',e,ha',hce,hrow⟩:=ho.row hm;rw [ha] at ha';cases ha';obtain ⟨a',b',e',d,ha',hb',hce',hs,hcs⟩:=hw.at_ hm;rw [ha] at ha';cases ha';rw [hb] at hb';cases hb';rw [hce] at hce';cases hce';obtain ⟨_,pr',⟨y',z,hy',hz,k1,k2,k3,k4⟩,z',hz',hfin,hst⟩:=hs;rw [hy] at hy';cases hy';rw [hz] at hz';cases hz';obtain rfl:pr=pr':=(Lst.uniq k4 hpr).symm;obtain ⟨⟨p,g,t,r,hr,hou,hv,hAr⟩,hAn⟩:=id hA;have hrow2:=hrow.trans (kid_row h hy hcy hr)
 -- what is within the kid
 have hwithin:∀ q∈r,∃ w g1 g2,N.ar[q]?=some w∧Qaa lb w.1=Qaa lb y.2.1∧Qaa lb w.2.1=Qaa lb y.2.1∧Rch (StA N (Qbv lb (Qaa lb y.2.1))) a q g1∧Rch (StA N (Qbv lb (Qaa lb y.2.1))) q p g2∧g=g1+g2:=fun q hq=>by{obtain ⟨_,_,h4⟩:=hr.mem hq;obtain ⟨_,w,_,hw',_,_,_,h7,h8,_⟩:=(Qca hok h.hb).1 h4;obtain ⟨g1,g2,_,_,r1,r2,hg,_⟩:=hr.cut hq;exact ⟨w,g1,g2,hw',h7,h8,r1.rch,r2.rch,hg⟩};have stpos:∀ (mk:List Bool) (p q:Nat) (d:Int),StA N mk p q d→0≤d:=fun mk p q d h=>(h.bd hok).1
 have hdle:pr≤d∧∀ pr2:Int,pr2≠1152921504606846976→OpS N l c to b pr2 (pr2+(d-pr)):=by
  rcases hst with ⟨e1,rfl⟩|⟨e1,h2,h3,h4,rfl⟩
  {exact ⟨by omega,fun pr2 hp=>⟨z,hz,hp,.inl ⟨e1,by omega⟩⟩⟩};{have:=(Qdk (hok.arcs z (Zm hz)).w).resolve_left h4;exact ⟨by omega,fun pr2 hp=>⟨z,hz,hp,.inr ⟨e1,h2,h3,h4,by omega⟩⟩⟩}
 have hnodup:(L ++A).Nodup:=by
  rw [List.nodup_append];refine ⟨ho.nd,hA.2,fun q hq q' hq' heq=>?_⟩;subst heq;rw [hAr] at hq';rcases List.mem_append.1 hq' with h3|h3
  {obtain ⟨w,g1,g2,hw1,hw2,hw3,r1,r2,hg⟩:=hwithin q h3;(rcases ho.mem q hq with ⟨i,hi,hbi⟩|⟨i,ai,yi,zi,gi,ei,ei',hi,hai,hyi,hzi,c1,c2,hri,hei,hei',hle⟩);{obtain ⟨w',hw',g3,_⟩:=hin (i+1) q (by omega) (by rw [List.getElem?_cons_succ];exact hbi);rw [hw1] at hw';cases hw';exact g3 (hw2.trans hw3.symm)};{rw [hw1] at hzi;cases hzi;have hk:Qaa lb yi.2.1=Qaa lb y.2.1:=c1.symm.trans hw2;rw [hk] at hri;obtain ⟨yi',hyi',hcri,_⟩:=hin i ai (by omega) hai;rw [hyi] at hyi';cases hyi';obtain ⟨v',hv'⟩:=h.hE ai b yi z hyi hz hcri (by rw [hk];exact k2) (by rw [hk];exact k3);rw [hk] at hv';obtain ⟨hle',hne'⟩:=ent_le hok (hri.trans r2) hou hv';have hai_ne:ai≠to:=by{obtain ⟨w',hw',_,hcw⟩:=hin i ai (by omega) hai;exact hh.in_ne hw' hcw};have:=hw.f.fst i m ai b ei (e+d) (v'+(d-pr)) hi hai hb hei hcs ⟨hai_ne,v',⟨yi,z,hyi,hz,hcri,by rw [hk];exact k2,by rw [hk];exact k3,by rw [hk];exact hv'⟩,hdle.2 v' hne'⟩;have hup:=hw.f.up hpos (m-(i+1)) (i+1) ei' e (by rw [List.getElem?_cons_succ];exact hei') (by rw [show i+1+(m-(i+1))=m by omega];exact hce);have hg1:=r1.pos (stpos _);omega}};{rw [List.mem_singleton] at h3;subst h3;(rcases ho.mem q hq with ⟨i,hi,hbi⟩|⟨i,ai,yi,zi,gi,ei,ei',hi,hai,hyi,hzi,c1,c2,_⟩);{have:=(List.getElem?_inj (Zs hbi).1 (List.nodup_cons.1 hw.f.nd).2).1 (hbi.trans hb.symm);omega};{rw [hz] at hzi;cases hzi;exact k3 (by rw [c2,←c1];exact k2)}}
 have hcost:e+pr=e+g+t:=by omega
 have htt:0≤t:=(OuA.bd hok hou).1;refine ⟨fun hlt=>?_,fun hlt=>?_,hnodup,fun q hq=>?_⟩;{(have hbt:b≠to:=fun e1=>by have:=(hw.to_iff hh.ne hb).1 e1;omega);(rcases hst with ⟨e1,_⟩|⟨_,h2,h3,h4,rfl⟩);{exact absurd e1 hbt};{refine ⟨b,_,by rw [List.getElem?_cons_succ];exact hb,by rw [List.getElem?_cons_succ];exact hcs,?_⟩;rw [hAr,←List.append_assoc];obtain ⟨w,z',hw',hz',em⟩:=Qbm hou.1;rw [hz] at hz';cases hz';(have hwc:Qaa l w.2.1=(c:Int):=by rw [em];exact h2);have:=hrow2.step ((Qca hok h.hl).2 ⟨w,z,hw',hz,em,hou.1,h4,h2,h3,rfl⟩);rw [hou.2] at hcost;rw [show e+(pr+z.2.2)=e+g+(Qai N p b+z.2.2) by omega];exact this}};{have hbt:b=to:=(hw.to_iff hh.ne hb).2 hlt;subst hbt;(rcases hst with ⟨_,rfl⟩|⟨e1,_⟩);{refine ⟨⟨p,e+g,t,L ++r,hrow2,hou,?_,by rw [hAr,List.append_assoc]⟩,hnodup⟩;have:=hw.cost;rw [←hlt,List.getElem?_cons_succ,hcs] at this;have:=Yv this;omega};{exact absurd rfl e1}};{(rcases List.mem_append.1 hq with h3|h3);{(rcases ho.mem q h3 with ⟨i,hi,g1⟩|⟨i,ai,yi,zi,gi,ei,ei',hi,g1⟩);{exact .inl ⟨i,by omega,g1⟩};{exact .inr ⟨i,ai,yi,zi,gi,ei,ei',by omega,g1⟩}};{rw [hAr] at h3;(rcases List.mem_append.1 h3 with h4|h4);{obtain ⟨w,g1,g2,hw1,hw2,hw3,r1,r2,hg⟩:=hwithin q h4;have hg2:=r2.pos (stpos _);exact .inr ⟨m,a,y,w,g1,e,e+d,by omega,ha,hy,hw1,hw2,hw3,r1,hce,hcs,by have:=hdle.1;omega⟩};{rw [List.mem_singleton] at h4;subst h4;exact .inl ⟨m,by omega,hb⟩}}}
theorem OwR.len (hw:Way (StQ N l c to (Qcu N lb)) s to v bs cs) (hok:Qqn N l lb c x) (hh:Qgz N l c s to v) (ho:OwR N l lb c s to v bs cs m L):L.length≤N.ar.length:=by
 refine Qfz _ _ ho.nd (fun q hq=>?_);rcases ho.mem q hq with ⟨i,_,g1⟩|⟨i,ai,yi,zi,gi,ei,ei',hi,_,_,hz,_⟩
 {exact hw.lt (fun a b d h=>((hok.okK hh).st a b d h).2.2) q (Zm g1)};{exact (Zs hz).1}
end
attribute [local go_sem ↓] Go.wp_at_zero Go.wp_at_succ
set_option maxHeartbeats 1000000 in
theorem Qkr (o:Nat)(ar:List Tri) (ls:List (List Int)) (w:World) (h:Qgh w o ar ls) (hL:ls.length≤1000000) (hc:∀ l∈ls,l.length≤1000000) :
 Calls prog 58 #[.pointer (some ⟨o,0,none⟩)] w fun e w'=>∃ Q' cq',e=.returned (.agg #[.slice Q' ls.length cq'])∧RdT (msk w' (fun b=>w.heap.size≤b∧b<w'.heap.size)) Q' ls.length ls∧Below w.heap.size w w':=by
 obtain ⟨Q,F,T,G,S,L,m,cq,cf,ct,cg,cs,h⟩:=h;have h0:=h.n0;have hl:ls.length=L:=h.part.1;rw [hl] at hL ⊢;have HT:=Zh h.part;have HC:=Zh hc;have hol:=Qak h0;simp only at hol;clear h hc hl;go_enter func58,ntmps58
 go_wp2_with fail
 (refine Qac ?_;intro w1 hw1);have hb1:Below w.heap.size w w1:=by rw [hw1];exact Qah
 have hR1:Blk w1 w.heap.size 132 #[.slice none 0 0]:=by rw [hw1];exact Qbi
 have hz1:w.heap.size+1≤w1.heap.size:=by rw [hw1];simp
 clear hw1;with_reducible refine (Qtz Q L cq ls _ (HT.out.below hb1) hL HC.out).mono ?_
 rintro e w2 ⟨Q',cq',rfl,hrw,_,_,hb2⟩;have hR2:=hR1.below hb2 hR1.lt;have r0:=hR2.cell 0;simp only [Yo,Yn] at r0;have f0:=hR2.frozen 0;have hb2':=Zb hb1 hb2
 have HW:=Zh (show RdT (msk (w2.setCell ⟨w.heap.size,0,none⟩ (.slice Q' L cq')) (fun b=>w.heap.size≤b∧b<(w2.setCell ⟨w.heap.size,0,none⟩ (.slice Q' L cq')).heap.size)) Q' L ls from
  hrw.le ((Qaz.set w2 w.heap.size 0 (.slice Q' L cq') (by omega)).msk.trans (Qbe (fun b hb=>⟨by omega,by have:=hb.2;simpa [World.setCell] using this⟩))))
 have hbe:Below w.heap.size w (w2.setCell ⟨w.heap.size,0,none⟩ (.slice Q' L cq')):=hb2'.setCell (Zn _) _;clear hrw hb2 hR1 hb1 h0;go_wp2_with fail
 refine bodyPost_ret (v:=.agg #[.slice Q' L cq']) (by simp [results,results58,go_sem,r0]) rfl ?_;exact ⟨_,_,rfl,HW.out,hbe⟩
def inR (n:Nat)(v:Int):Prop:=0≤v∧v<(n:Int)
noncomputable def lvI (n:Nat) (ls:List (List Int)) (v a b:Int):Int:=by classical exact if inR n v∧inR n a∧inR n b then (Qhh ls v [a,b]:Int) else 0
theorem lvTo_yes {ls:List (List Int)} {v:Int} {av:List Int} {j:Nat} (h:Qej ls j v av):Qtj ls v av (j+1)=j+1:=by unfold Qtj;rw [if_pos h]
theorem Qxx {ls:List (List Int)} {v:Int} {av:List Int} {j:Nat} (h:¬Qej ls j v av):Qtj ls v av (j+1)=Qtj ls v av j:=by rw [show Qtj ls v av (j+1)=(by classical exact if Qej ls j v av then j+1 else Qtj ls v av j) from rfl];rw [if_neg h]
set_option maxRecDepth 20000 in
set_option maxHeartbeats 2000000 in
theorem Qvc (Q:Option Addr)(L cq n:Nat) (ls:List (List Int)) (v a b:Int) (w:World) (h:RdT w Q L ls) (hP:Qat n ls) :
 Calls prog 80 #[.slice Q L cq,.int .i64 v,.int .i64 a,.int .i64 b] w fun e w'=>e=.returned (.int .i64 (lvI n ls v a b))∧Below w.heap.size w w':=by
 have HT:=Zh h;have HP:=Zh hP;have hL6:L≤6:=by rw [←h.1];exact hP.l6
 have HL1:=Zh (show 1≤L by rw [←h.1];exact hP.l1);have HLL:=Zh h.1;have hix0:∀ W,(Instr.index 242 (.agg #[.int .i64 v,.int .i64 a,.int .i64 b]) (.int .i64 0)).run prog W=.ok (.int .i64 v) W:=fun W=>by rfl
 have hix1:∀ W,(Instr.index 242 (.agg #[.int .i64 v,.int .i64 a,.int .i64 b]) (.int .i64 1)).run prog W=.ok (.int .i64 a) W:=fun W=>by rfl
 have hix2:∀ W,(Instr.index 242 (.agg #[.int .i64 v,.int .i64 a,.int .i64 b]) (.int .i64 2)).run prog W=.ok (.int .i64 b) W:=fun W=>by rfl
 clear h hP;go_enter func80,ntmps80
 go_wp2_with fail
 go_loopw [9] (fun q W=>∃ j:Nat,j≤L∧q=.int .i64 j∧Below w.heap.size w W∧Qhh ls v [a,b]=Qtj ls v [a,b] j∧(j<L→inR n v∧inR n a∧inR n b)) (fun q _=>(intOf q).toNat)
 case atStart=>exact ⟨L,Zn _,rfl,Zr _ _,by unfold Qhh;rw [HLL.out],fun h=>absurd h (Nat.lt_irrefl _)⟩
 case round =>
  obtain ⟨J,hj,rfl,hb,hlv,hin⟩:=hrel;have HB:=Zh hb;have HLV:=Zh hlv;have HIN:=Zh hin;clear hlv hin;by_cases h0:J=0
  · subst h0;(have e0:¬((1:Int)≤((0:Nat):Int)):=by omega);clear hb
    have HZ:=Zh (show lvI n ls v a b=0 by
     unfold lvI;rw [if_pos (HIN.out (by have:=HL1.out;omega)),HLV.out]
     rfl)
    exact Kbf
  · obtain ⟨j,hJ⟩:∃ j,J=j+1:=⟨J-1,by omega⟩;(have e0:1≤(J:Int):=by omega);(have HJ:=Zh hJ;obtain ⟨qb,qo,A1,n1,c1,l,rfl,hl,k0,k1,_,_⟩:=(HT.out.below hb).at_ (i:=j) (by omega);have hlo:=HP.out.lvl l (Zm hl);obtain rfl:n=n1:=by rw [←k1.1];exact hlo.len.symm);(have e1:(J:Int)-1=j:=by omega);(have e2:0≤(j:Int):=by omega);(have e3:(j:Int)<L:=by omega);have wl:IntKind.i64.wrap (j:Int)=(j:Int):=IntWalk.i64_in _ (by omega);have HL:=Zh hl;have HLO:=Zh hlo;have HR:=Zh k1;clear hl hlo k1 hb hJ h0;(go_wp2_with fail);obtain ⟨wo,hwo⟩:=Zx wr;subst hwo;(go_loopw [28] (fun q W=>∃ i:Nat,i≤3∧q=.int .i64 i∧W=wo∧(0<i→inR n v)∧(1<i→inR n a)∧(2<i→inR n b)) (fun q _=>3-(intOf q).toNat));case atStart=>exact ⟨0,by omega,rfl,rfl,fun h=>by omega,fun h=>by omega,fun h=>by omega⟩
    case round =>
     obtain ⟨i,hi,rfl,rfl,h1,h2,h3⟩:=hrel;have H1:=Zh h1;have H2:=Zh h2;have H3:=Zh h3;clear h1 h2 h3;(rcases (by omega:i=0∨i=1∨i=2∨i=3) with rfl|rfl|rfl|rfl);{(skip);by_cases hx:inR n v;{have hx0:0≤v:=hx.1;(have hx1:v<(n:Int):=hx.2);have HX:=Zh hx;clear hx;(go_wp2_with fail);go_roundw;(case rel=>first|exact ⟨0+1,by omega,by go_num,trivial,(fun _=>HX.out),(fun h=>by omega),(fun h=>by omega)⟩|exact ⟨0+1,by omega,by go_num,rfl,(fun _=>HX.out),(fun h=>by omega),(fun h=>by omega)⟩);case measure=>simp [intOf]};{have HZ:=Zh (show lvI n ls v a b=0 by unfold lvI;rw [if_neg (fun h=>hx h.1)]);(by_cases hx0:v<0);{clear hx;exact Kbf};{(have hx1:(n:Int)≤v:=by unfold inR at hx;omega);(have hx2:0≤v:=by omega);clear hx;exact Kbf}}};{(skip);by_cases hx:inR n a;{have hx0:0≤a:=hx.1;(have hx1:a<(n:Int):=hx.2);have HX:=Zh hx;clear hx;(go_wp2_with fail);go_roundw;(case rel=>first|exact ⟨1+1,by omega,by go_num,trivial,(fun _=>H1.out (by omega)),(fun _=>HX.out),(fun h=>by omega)⟩|exact ⟨1+1,by omega,by go_num,rfl,(fun _=>H1.out (by omega)),(fun _=>HX.out),(fun h=>by omega)⟩);case measure=>simp [intOf]};{have HZ:=Zh (show lvI n ls v a b=0 by unfold lvI;rw [if_neg (fun h=>hx h.2.1)]);(by_cases hx0:a<0);{clear hx;exact Kbf};{(have hx1:(n:Int)≤a:=by unfold inR at hx;omega);(have hx2:0≤a:=by omega);clear hx;exact Kbf}}};{(skip);by_cases hx:inR n b;{have hx0:0≤b:=hx.1;(have hx1:b<(n:Int):=hx.2);have HX:=Zh hx;clear hx;(go_wp2_with fail);go_roundw;(case rel=>first|exact ⟨2+1,by omega,by go_num,trivial,(fun _=>H1.out (by omega)),(fun _=>H2.out (by omega)),(fun _=>HX.out)⟩|exact ⟨2+1,by omega,by go_num,rfl,(fun _=>H1.out (by omega)),(fun _=>H2.out (by omega)),(fun _=>HX.out)⟩);case measure=>simp [intOf]};{have HZ:=Zh (show lvI n ls v a b=0 by unfold lvI;rw [if_neg (fun h=>hx h.2.2)]);(by_cases hx0:b<0);{clear hx;exact Kbf};{(have hx1:(n:Int)≤b:=by unfold inR at hx;omega);(have hx2:0≤b:=by omega);clear hx;exact Kbf}}}
     · have hv:=H1.out (by omega);have ha:=H2.out (by omega);have hb:=H3.out (by omega);have HIR:=Zh (And.intro hv (And.intro ha hb));unfold inR at hv ha hb;obtain ⟨vn,rfl⟩:∃ vn:Nat,v=(vn:Int):=⟨v.toNat,by omega⟩;obtain ⟨an,rfl⟩:∃ vn:Nat,a=(vn:Int):=⟨a.toNat,by omega⟩;obtain ⟨bn,rfl⟩:∃ vn:Nat,b=(vn:Int):=⟨b.toNat,by omega⟩;obtain ⟨lb,lo,zv,rfl,hzv,cv⟩:=HR.out.at_ (i:=vn) (by omega);obtain ⟨_,_,za,ea,hza,ca⟩:=HR.out.at_ (i:=an) (by omega);cases ea;obtain ⟨_,_,zb,eb,hzb,cb⟩:=HR.out.at_ (i:=bn) (by omega);cases eb;(have p1:0≤(vn:Int):=by omega);(have p2:0≤(an:Int):=by omega);(have p3:0≤(bn:Int):=by omega);(have p4:(vn:Int)<n:=by omega);(have p5:(an:Int)<n:=by omega);have p6:(bn:Int)<n:=by omega
       have HAP:=Zh (show Qej ls j (vn:Int) [(an:Int),(bn:Int)]↔zv≠za∧zv≠zb from by
        constructor
        · rintro ⟨l',hl',g⟩
          rw [HL.out] at hl'
          cases hl'
          have g1:=g _ (List.mem_cons_self ..);have g2:=g _ (List.mem_cons_of_mem _ (List.mem_cons_self ..));rw [Qba hzv,Qba hza] at g1;rw [Qba hzv,Qba hzb] at g2;exact ⟨g1,g2⟩
        · rintro ⟨g1,g2⟩
          refine ⟨l,HL.out,fun x hx=>?_⟩;rw [List.mem_cons,List.mem_cons] at hx
          rcases hx with rfl|rfl|hx
          · rw [Qba hzv,Qba hza];exact g1
          · rw [Qba hzv,Qba hzb];exact g2
          · cases hx)
       clear hv ha hb hzv hza hzb;(go_wp2_with fail);refine wp_region_held_drew (S:=fun V=>V=wr.drew) (by kernel_rfl) rfl (fun _=>?_);by_cases h1:zv=za;{(have e4:(zv != za)=false:=by simp [h1]);have HNA:=Zh (show ¬Qej ls j (vn:Int) [(an:Int),(bn:Int)] from fun h=>(HAP.out.1 h).1 h1);clear h1;refine tzd 0 40 ?_;refine tzd 4 44 ?_;refine tzb 8 48 ?_;refine tw 10 50 ?_;refine tw 11 51 ?_;refine tw 12 52 ?_;refine tw 13 53 ?_;refine tw 14 54 ?_;refine tw 15 55 ?_;refine tw 16 56 ?_;refine tw 17 57 ?_;refine tw 18 58 ?_;refine tz 19 59 ?_;refine Zd ?_;have HLN:=Zh (Qxx HNA.out);have HB2:=Zh (HB.out.trans ((Zr _ _).drew.mono HB.out.size));exact Kbz};{(have e4:(zv != za)=true:=by simp [h1]);by_cases h2:zv=zb;{(have e5:(zv != zb)=false:=by simp [h2]);have HNA:=Zh (show ¬Qej ls j (vn:Int) [(an:Int),(bn:Int)] from fun h=>(HAP.out.1 h).2 h2);clear h1 h2;refine tzd 0 40 ?_;refine tzd 4 44 ?_;refine tzd 8 48 ?_;refine tzd 12 52 ?_;refine tzd 16 56 ?_;refine Zd ?_;have HLN:=Zh (Qxx HNA.out);have HB2:=Zh (HB.out.trans ((Zr _ _).drew.mono HB.out.size));exact Kbz};{(have e5:(zv != zb)=true:=by simp [h2]);have HYA:=Zh (lvTo_yes (HAP.out.2 ⟨h1,h2⟩));clear h1 h2;refine tzd 0 40 ?_;refine tzd 4 44 ?_;refine tzd 8 48 ?_;refine tzd 12 52 ?_;refine tzd 16 56 ?_;refine Zd ?_;have HB2:=Zh (HB.out.trans ((Zr _ _).drew.mono HB.out.size));have HZ:=Zh (show lvI n ls (vn:Int) (an:Int) (bn:Int)=(J:Int) by unfold lvI;rw [if_pos HIR.out,HLV.out,HJ.out,HYA.out]);(go_wp2_with fail);go_ret;rw [HZ.out];exact ⟨rfl,HB2.out⟩}}
structure BfI (N:Qam) (mk:List Bool) (s t:Nat) (d:List Int) (best:Int):Prop where
 len:d.length=N.ar.length
 ok:∀ (b:Nat) (v:Int),d[b]?=some v→v=1152921504606846976∨(0≤v∧v<1152921504606846976∧∃ p c e,Rch (StA N mk) s p c∧StA N mk p b e∧v=c+e)
 best:best=1152921504606846976∨(0≤best∧best<1152921504606846976∧Qok (StA N mk) (OuA N) s t best)
def dAt (d:List Int)(a:Nat):Int:=d.getD a 1152921504606846976
theorem Qeo {d:List Int}{a:Nat}{v:Int} (h:d[a]?=some v):dAt d a=v:=by unfold dAt;rw [Ya,h];rfl
theorem BfI.at_ {N:Qam}{mk:List Bool}{s t:Nat}{d:List Int}{best:Int}(h:BfI N mk s t d best)(a:Nat):dAt d a=1152921504606846976∨(0≤dAt d a∧dAt d a<1152921504606846976∧∃ c,dAt d a=c∧Rch (StA N mk) s a c):=by
 cases e:d[a]? with
 | none=>left;unfold dAt;rw [Ya,e];rfl
 | some v =>
  rw [Qeo e];rcases h.ok a v e with h1|⟨h1,h2,p,c,f,h3,h4,rfl⟩
  {exact .inl h1};{exact .inr ⟨h1,h2,_,rfl,h3.step h4⟩}
theorem BfI.start (N:Qam)(mk:List Bool)(s t:Nat):BfI N mk s t (List.replicate N.ar.length 1152921504606846976) 1152921504606846976 :=
 ⟨by simp,fun b v h=>by obtain ⟨_,e⟩:=Zs h;simp at e;exact .inl e.symm,.inl rfl⟩
section
variable {N:Qam} {mk:List Bool} {s t:Nat} {d:List Int} {best:Int}
theorem BfI.less (h:BfI N mk s t d best){p b:Nat}{c e:Int} (hp:Rch (StA N mk) s p c) (hc:0≤c) (hs:StA N mk p b e) (he:0≤e) (hlt:c+e<dAt d b):BfI N mk s t (d.set b (c+e)) best:=by refine ⟨by rw [Yq];exact h.len,fun q v hq=>?_,h.best⟩;by_cases hb:b=q;{subst hb;(by_cases hl:b<d.length);{rw [Yg hl] at hq;cases hq;have:=h.at_ b;(right);exact ⟨by omega,by rcases this with h1|⟨_,h1,_⟩ <;> omega,p,c,e,hp,hs,rfl⟩};{rw [Yd (by rw [Yq];omega)] at hq;cases hq}};{rw [Yh hb] at hq;exact h.ok q v hq}
theorem BfI.out (h:BfI N mk s t d best){p:Nat}{c e:Int} (hp:Rch (StA N mk) s p c) (hc:0≤c) (ho:OuA N p t e) (he:0≤e) (hlt:c+e<best):BfI N mk s t d (c+e) :=
 ⟨h.len,h.ok,.inr ⟨by omega,by rcases h.best with h1|⟨_,h1,_⟩ <;> omega,p,c,e,hp,ho,rfl⟩⟩
theorem BfI.done (hok:Qap N)(h:BfI N mk s t d best)(h0:∀ b e,StA N mk s b e→dAt d b≤e)(hT:∀ e,OuA N s t e→best≤e)
 (hR:∀ a,dAt d a<1152921504606846976→(∀ b e,StA N mk a b e→dAt d b≤dAt d a+e)∧∀ e,OuA N a t e→best≤dAt d a+e):Qet N mk s t best:=by
 have hle:∀ b,dAt d b≤1152921504606846976:=fun b=>by rcases h.at_ b with h1|⟨_,h1,_⟩ <;> omega
 have hble:best≤1152921504606846976:=by rcases h.best with h1|⟨_,h1,_⟩ <;> omega
 have hlow:∀ p c,Rch (StA N mk) s p c→(p=s∧c=0)∨dAt d p≤c:=by
  intro p c hr
  induction hr with
  | start=>exact .inl ⟨rfl,rfl⟩
  | @step p q c e h1 h2 ih =>(right);(rcases ih with ⟨rfl,rfl⟩|ih);{have:=h0 q e h2;omega};{have he:=(h2.bd hok).1;(by_cases hlt:dAt d p<1152921504606846976);{have:=(hR p hlt).1 q e h2;omega};{have:=hle q;omega}}
 have hout:∀ v,Qok (StA N mk) (OuA N) s t v→best≤v:=by
  rintro v ⟨p,c,e,h1,h2,rfl⟩;have he:=(h2.bd hok).1;rcases hlow p c h1 with ⟨rfl,rfl⟩|hlt
  {have:=hT e h2;omega};{(by_cases hlt2:dAt d p<1152921504606846976);{have:=(hR p hlt2).2 e h2;omega};{omega}}
 rcases h.best with h1|⟨_,_,h1⟩
 {(right);refine ⟨h1,fun v hv=>?_⟩;obtain ⟨p,c,e,g1,g2,rfl⟩:=hv;obtain ⟨c',g3,g4⟩:=Qhm hok p c g1;have g5:=hout (c'+e) ⟨p,c',e,g3,g2,rfl⟩;have g6:=(g2.bd hok).2;unfold MB at g4;omega};{exact .inl ⟨h1,hout⟩}
end
def Qes (N:Qam)(a:Nat):List Int:=match N.ar[a]? with
 | some x=>(idx (·.1) N.ar x.2.1).filter (fun b=>Qai N a b.toNat != 1152921504606846976)
 | none=>[]
def Qql (N:Qam)(a:Nat):List Int:=(Qes N a).map (fun b=>Qai N a b.toNat)
def Qko (N:Qam):List (List Int):=(List.range N.ar.length).map (Qes N)
def Qlh (N:Qam):List (List Int):=(List.range N.ar.length).map (Qql N)
theorem Qve {N:Qam}{a:Nat}(h:a<N.ar.length):(Qko N)[a]?=some (Qes N a):=by unfold Qko;rw [Yt,List.getElem?_range h];rfl
theorem Qvv {N:Qam}{a:Nat}(h:a<N.ar.length):(Qlh N)[a]?=some (Qql N a):=by unfold Qlh;rw [Yt,List.getElem?_range h];rfl
theorem Qyc {N:Qam}{a:Nat}{z:Int}:z∈Qes N a↔∃ b:Nat,z=(b:Int)∧Qai N a b≠1152921504606846976:=by
 unfold Qes
 cases hx:N.ar[a]? with
 | none =>simp only [List.not_mem_nil,false_iff,not_exists,not_and];rintro b rfl h;obtain ⟨x,_,e,_⟩:=Qbm h;rw [hx] at e;cases e
 | some x =>simp only [List.mem_filter,Qdz];constructor;{rintro ⟨⟨b,y,rfl,_,_⟩,h2⟩;exact ⟨b,rfl,by simpa using h2⟩};{rintro ⟨b,rfl,h⟩;obtain ⟨x',y,e1,e2,e3⟩:=Qbm h;rw [hx] at e1;cases e1;exact ⟨⟨b,y,rfl,e2,e3.symm⟩,by simpa using h⟩}
theorem Qyp (N:Qam)(a:Nat):(Qes N a).length≤N.ar.length:=by
 unfold Qes
 cases hx:N.ar[a]? with
 | none=>simp
 | some x =>have h:=Qeq (·.1) N.ar N.ar.length x.2.1;rw [List.take_length] at h;exact Yx (List.length_filter_le _ _) h
theorem trn_len (N:Qam)(a:Nat):(Qql N a).length=(Qes N a).length:=by simp [Qql]
theorem nxt_at {N:Qam}{a k:Nat} (h:k<(Qes N a).length):∃ b:Nat,(Qes N a)[k]?=some (b:Int)∧(Qql N a)[k]?=some (Qai N a b)∧Qai N a b≠1152921504606846976∧b<N.ar.length:=by obtain ⟨z,hz⟩:∃ z,(Qes N a)[k]?=some z:=⟨_,Zg h⟩;obtain ⟨b,rfl,hb⟩:=Qyc.1 (Zm hz);obtain ⟨_,y,_,e,_⟩:=Qbm hb;refine ⟨b,hz,?_,hb,(Zs e).1⟩;unfold Qql;rw [Yt,hz];rfl
theorem Qfo (Q:Option Addr)(L cq i:Nat)(w:World)(hi:i<L) :
 Calls prog 67 #[.agg #[.slice Q L cq],.int .i64 ((i:Int)+1)] w fun r w'=>r=.returned (.bool true)∧Below w.heap.size w w':=by
 have i1:1≤(i:Int)+1:=by omega
 have i2:(i:Int)+1≤L:=by omega
 go_enter func67,ntmps67
 exact Kbs
set_option maxHeartbeats 2000000 in
theorem Qhn (A B C Q:Option Addr)(n m k c d e L cq li:Nat)(N:Qam) (ls:List (List Int)) (l:List Int) (w:World) (h:Qbz w A B C n m k N) (hok:Qap N) (hq:RdT w Q L ls) (hl:ls[li]?=some l) (hll:l.length=N.vs.length) (hL:L≤1000000) :
 Calls prog 112 #[.agg #[.slice A n c,.slice B m d,.slice C k e],.agg #[.slice Q L cq],.int .i64 ((li:Int)+1)] w fun r w'=>∃ A' n' c',r=.returned (.slice A' n' c')∧RdI w' A' n' (Qas N.ar l)∧(∀ b,Qab A'=some b→w.heap.size≤b)∧Below w.heap.size w w':=by
 have HH:=Zh h;have HM:=Zh h.2.1.1;have hm:m≤16384:=by rw [←h.2.1.1];exact hok.la
 have hliL:li<L:=by rw [←hq.1];exact (Zs hl).1
 obtain ⟨qb,qo,LA,ln,lc,l',rfl,hl',q1,q2,q3,q4⟩:=hq.at_ hliL;rw [hl] at hl';cases hl';have hln:ln=N.vs.length:=by rw [←q2.1];exact hll
 have i5:(li:Int)+1-1=li:=by omega
 have i6:(li:Int)<L:=by omega
 have i7:0≤(li:Int):=by omega
 have wl:IntKind.i64.wrap (li:Int)=(li:Int):=IntWalk.i64_in _ (by omega);have HQ:=Zh q2;have HQ1:=Zh q1;have HLN:=Zh hln;have hlv:=hok.lv;have HAR:=Zh hok.arcs;clear h hq hl q1 q2 q3 q4 hll hln hok;go_enter func112,ntmps112
 go_wp2_with fail
 (refine Qaj ?_;intro w1 hw1);have hb1:Below w.heap.size w w1:=by rw [hw1];exact Qah
 have hX:Blk w1 w.heap.size 26 #[.slice A n c,.slice B m d,.slice C k e]:=by{rw [hw1];refine Blk.alloc ?_ _;exact Blk.new _ _ _};have hY:Blk w1 (w.heap.size+1) 29 #[.slice (some ⟨qb,qo,none⟩) L cq]:=by{rw [hw1];refine Blk.new' _ _ _ ?_;simp};clear hw1;go_loopw [7,8] (fun z q V=>∃ (i:Nat) (A':Option Addr) (c':Nat),i≤m∧q=.int .i64 i∧z=.slice A' (Qii (Qcn l) (N.ar.take i)).length c'∧Own V w1.heap.size 3 1 A' (Qii (Qcn l) (N.ar.take i)).length c' (Qag (Qii (Qcn l) (N.ar.take i)))∧Below w1.heap.size w1 V) (fun _ q _=>m-(intOf q).toNat)
 case atStart=>exact ⟨0,none,0,Nat.zero_le _,rfl,rfl,Own.nil _ _ _ _,Zr _ _⟩
 case round =>
  obtain ⟨i,A',c',hi,rfl,rfl,hown,hbl⟩:=hrel;have hXr:=hX.below hbl hX.lt;have hYr:=hY.below hbl hY.lt;have x1:=hXr.cell 1;have xl:=hXr.lt;have y0:=hYr.cell 0;have yl:=hYr.lt;simp only [Yo,Yn,List.getElem?_cons_succ] at x1 y0;have hbd:(Qii (Qcn l) (N.ar.take i)).length≤i:=Yx (Qfv _ _) (by rw [Yw];omega);have HOW:=Zh hown;obtain ⟨no,hno⟩:=Zx ((Qii (Qcn l) (N.ar.take i)).length);rw [←hno] at hbd ⊢;have HNO:=Zh hno;clear hown hno;by_cases hlt:i<m
  rotate_left;{(obtain rfl:i=m:=by omega);(have i1:¬((i:Int)<i):=by omega);(go_wp2_with fail);go_ret;refine ⟨A',no,⟨c',rfl⟩,?_,fun b hb=>by have:=(HOW.out.lt b hb).1;have:=hb1.size;omega,Zb hb1 hbl⟩;have:=HOW.out.rds.rdI;rw [Ye (by rw [HM.out];exact Zn _)] at this;rw [HNO.out,Ye (by rw [HM.out];exact Zn _)];exact this}
  · (have i1:(i:Int)<m:=by omega);(have i2:0≤(i:Int):=by omega);(go_wp2_with fail);(with_reducible refine (Qfo _ L cq li wr hliL).mono ?_);(rintro r w2 ⟨rfl,hb2⟩;have hbl2:=Zb hbl hb2;have HOW2:=Zh (HOW.out.below hb2);have hbw:=Zb hb1 hbl2;clear x1 xl y0 yl hXr hYr hb2 hbl HOW;obtain ⟨y,hy⟩:∃ y,N.ar[i]?=some y:=⟨_,Zg (by rw [HM.out];exact hlt)⟩;obtain ⟨b,o,rfl,c0,c1,c2⟩:=(HH.out.below hbw).2.1.2 i y hy;have ho:=HAR.out y (Zm hy);have f0:=ho.f0;have f1:=ho.f1;have g0:=ho.g0;have g1:=ho.g1;obtain ⟨u,hu⟩:∃ u:Nat,y.1=(u:Int):=⟨y.1.toNat,by omega⟩;obtain ⟨v,hv⟩:∃ v:Nat,y.2.1=(v:Int):=⟨y.2.1.toNat,by omega⟩;rw [hu] at c0;rw [hv] at c1;have hun:u<ln:=by rw [HLN.out];omega);(have hvn:v<ln:=by rw [HLN.out];omega);obtain ⟨b1,o1,z1,rfl,hz1,d1⟩:=(HQ.out.below hbw).at_ hun;obtain ⟨b1',o1',z2,e',hz2,d2⟩:=(HQ.out.below hbw).at_ hvn;cases e';have hqc:=Zc hbw (Zn _) HQ1.out;have hXr:=hX.below hbl2 hX.lt;have hYr:=hY.below hbl2 hY.lt;have hcr:Qcn l y=(z1 != z2):=by{unfold Qcn;rw [hu,hv,Qba hz1,Qba hz2]};(have j1:(u:Int)<ln:=by omega);(have j2:(v:Int)<ln:=by omega);(have j3:0≤(u:Int):=by omega);(have j4:0≤(v:Int):=by omega);have HY:=Zh hy;have HCR:=Zh hcr
    have HSX:=Zh (show ∀ V,Below w2.heap.size w2 V→V.cell? ⟨w.heap.size,1,none⟩=some (.slice (some ⟨b,o,none⟩) m d)∧V.cell? ⟨w.heap.size+1,0,none⟩=some (.slice (some ⟨qb,qo,none⟩) L cq)∧V.cell? ⟨qb,qo+li,none⟩=some (.slice (some ⟨b1,o1,none⟩) ln lc)∧V.cell? ⟨b,o+i*3,none⟩=some (.int .i64 u)∧V.cell? ⟨b,o+i*3+1,none⟩=some (.int .i64 v)∧V.cell? ⟨b1,o1+u,none⟩=some (.int .i64 z1)∧V.cell? ⟨b1,o1+v,none⟩=some (.int .i64 z2) from
     fun V hV=>⟨by rw [(hXr.below hV hXr.lt).cell];rfl,by rw [(hYr.below hV hYr.lt).cell];rfl,Zc hV (Zn _) hqc,Zc hV (Zn _) c0,Zc hV (Zn _) c1,Zc hV (Zn _) d1,Zc hV (Zn _) d2⟩)
    clear hy hcr c0 c1 c2 d1 d2 hqc hXr hYr hu hv hz1 hz2 f0 f1 g0 g1 ho;(go_wp2_with fail);refine wp_region_held_drew (S:=fun V=>Below w2.heap.size w2 V) (by kernel_rfl) (Zr _ _).drew (fun _=>?_);refine tzd 0 21 ?_;refine tzd 4 25 ?_;refine tzd 8 29 ?_;refine tzd 12 33 ?_;refine tzd 16 37 ?_;refine tzd 20 41 ?_;refine tzd 24 45 ?_;refine tz 28 49 ?_;refine Zd ?_;clear HSX;by_cases hv:z1=z2;{(have e1:(z1 != z2)=false:=by simpa using hv);have HN1:=Zh (show Qii (Qcn l) (N.ar.take (i+1))=Qii (Qcn l) (N.ar.take i) by rw [Qjy HY.out,HCR.out,e1];simp);have HE:=Zh hv;clear hv;(go_wp2_with fail);go_roundw;(case rel=>exact ⟨i+1,A',c',by omega,by go_num,by rw [HN1.out,HNO.out],by rw [HN1.out];exact HOW2.out.drew,hbl2.drew⟩);case measure=>simp [intOf];omega};{(have e1:(z1 != z2)=true:=by simpa using hv);(obtain ⟨W1,hW1⟩:=Zx w2.drew;have hbW1:Below w1.heap.size w1 W1:=by rw [hW1];exact hbl2.drew);have hown2:Own W1 w1.heap.size 3 1 A' no c' (Qag (Qii (Qcn l) (N.ar.take i))):=by{rw [hW1];have:=HOW2.out;rw [←HNO.out] at this;exact this.drew};(rw [←hW1];obtain ⟨W2,hW2⟩:=Zx (W1.alloc (.cells #[.int .i64 i] 3));have hown3:Own W2 w1.heap.size 3 1 A' no c' (Qag (Qii (Qcn l) (N.ar.take i))):=by rw [hW2];exact hown2.alloc _);(have hrd:Rds W2 1 (some ⟨W1.heap.size,0,none⟩) 1 (Qag [(i:Int)]):=by rw [hW2];exact (Blk.new W1 3 #[.int .i64 i]).rds rfl);(have hba:Below w1.heap.size w1 W2:=by rw [hW2];exact Below.alloc hbW1 hbW1.size _);have hsz:w1.heap.size≤W2.heap.size:=hba.size;have HW2:=Zh hW2;have HE:=Zh hv;clear hW2 hown2 hv hW1 hbW1;(go_wp2_with (at_builtin;rw [←HW2.out];with_reducible refine Qal rfl (.tmp 50) (.tmp 52) 61 rfl 3 _ 1 8 Qbo underlying61 rfl (by omega) rfl rfl hown3 hrd (Qao _) (by omega) (by omega) hsz ?_));intro A3 c3 w8 ho8 hg8 _;have hb8:Below w1.heap.size w1 w8:=Zo hba hg8 hown3 hsz;have HN0:=Zh (show Qii (Qcn l) (N.ar.take (i+1))=Qii (Qcn l) (N.ar.take i) ++[(i:Int)] by rw [Qjy HY.out,HCR.out,e1,if_pos rfl]);have HO8:=Zh (show Own w8 w1.heap.size 3 1 A3 (no+1) c3 (Qag (Qii (Qcn l) (N.ar.take (i+1)))) by rw [HN0.out,Qbg];exact ho8);have HN1:=Zh (show (Qii (Qcn l) (N.ar.take (i+1))).length=no+1 by rw [HN0.out,Yp,←HNO.out];rfl);exact Kav}
set_option maxHeartbeats 1000000 in
theorem Qkz (Q:Option Addr)(L cq li n:Nat)(c:Int) (ls:List (List Int)) (l l0:List Int) (w:World) (h:RdT w Q L ls) (hl:ls[li]?=some l) (hL:L≤1000000) (h0:ls[0]?=some l0) (hn:l.length=n) (hn0:l0.length=n) (hn4:n≤1000000) :
 Calls prog 72 #[.agg #[.slice Q L cq],.int .i64 ((li:Int)+1),.int .i64 c] w fun e w'=>∃ b,e=.returned (.slice (some ⟨b,0,none⟩) n n)∧Blk w' b 4 (Qfc (Qbv l c))∧w.heap.size≤b∧Below w.heap.size w w':=by
 have hL0:0<L:=by rw [←h.1];exact (Zs h0).1
 have hliL:li<L:=by rw [←h.1];exact (Zs hl).1
 obtain ⟨qb,qo,A0,n0,c0,l0',hQ,hl0,g0,g1,g2,g3⟩:=h.at_ hL0;rw [h0] at hl0;cases hl0;obtain rfl:n=n0:=by rw [←hn0];exact g1.1
 obtain ⟨qb',qo',A1,n1,c1,l1',e',hl1,k0,k1,k2,k3⟩:=h.at_ hliL;subst hQ;cases e';rw [hl] at hl1;cases hl1;obtain rfl:n=n1:=by rw [←hn];exact k1.1
 have HG0:=Zh (show ∀ V,Below w.heap.size w V→V.cell? ⟨qb,qo,none⟩=some (.slice A0 n c0) from fun V hV=>Zc hV (Zn _) g0);have HK0:=Zh (show ∀ V,Below w.heap.size w V→V.cell? ⟨qb,qo+li,none⟩=some (.slice A1 n c1) from fun V hV=>Zc hV (Zn _) k0);have HK1:=Zh k1;have HN:=Zh hn;have hmk:=Qla n (by omega);have e1:((L:Int) == 0)=false:=by simp;omega
 have i1:0<(L:Int):=by omega
 have i2:(li:Int)<L:=by omega
 have i3:0≤(li:Int):=by omega
 have i4:(li:Int)+1-1=li:=by omega
 have wl:IntKind.i64.wrap (li:Int)=(li:Int):=IntWalk.i64_in _ (by omega);have zq:=Qak g0;simp only at zq;have z0:(w.alloc (.cells #[.slice (some ⟨qb,qo,none⟩) L cq] 29)).cell? ⟨qb,qo,none⟩=some (.slice A0 n c0):=HG0.out _ ((Zr _ _).alloc (Zn _) _);clear h hl h0 hn hn0 g0 g1 g2 g3 k0 k1 k2 k3;go_enter func72,ntmps72
 go_wp2_with fail
 (refine Qaj ?_;intro w3 hw3);have hb3:Below w.heap.size w w3:=by rw [hw3];exact Qah
 have hX3:Blk w3 w.heap.size 29 #[.slice (some ⟨qb,qo,none⟩) L cq]:=by rw [hw3];exact (Blk.new _ _ _).alloc _
 have hd3:Blk w3 (w.heap.size+1) 4 (Qfc ((Qbv l c).take 0 ++List.replicate (n-0) false)):=by{rw [hw3,Nat.sub_zero,List.take_zero,List.nil_append,←Qiv];refine Blk.new' _ _ _ ?_;simp};clear hw3 z0 zq;go_loopw [8] (fun q W=>∃ i:Nat,q=.int .i64 i∧i≤n∧Below w.heap.size w W∧Blk W w.heap.size 29 #[.slice (some ⟨qb,qo,none⟩) L cq]∧Blk W (w.heap.size+1) 4 (Qfc ((Qbv l c).take i ++List.replicate (n-i) false))) (fun q _=>n-(intOf q).toNat)
 case atStart=>exact ⟨0,by go_num,Nat.zero_le _,hb3,hX3,hd3⟩
 case round =>
  clear hb3 hd3 hX3;obtain ⟨i,rfl,hin,hb,hX,hd⟩:=hrel;by_cases hlt:i<n
  {have x0:wr.cell? ⟨w.heap.size,0,none⟩=some (.slice (some ⟨qb,qo,none⟩) L cq):=Zq hX;(have hi2:(i:Int)<n:=by omega);(go_wp2_with fail);(with_reducible refine (Qfo _ L cq li wr hliL).mono ?_);(rintro r w2 ⟨rfl,hb2⟩;have hbw2:=Zb hb hb2;obtain ⟨b,o,z,rfl,hz,hc⟩:=(HK1.out.below hbw2).at_ hlt;have hd2:=hd.below hb2 hd.lt;have hX2:=hX.below hb2 hX.lt;have f0:=hd2.frozen i;have hd':=hd2.setB (i:=i) (x:=z == c) (Qyg hz HN.out);have hb':Below w.heap.size w (w2.setCell ⟨w.heap.size+1,i,none⟩ (.bool (z == c))):=hbw2.setCell (by simp) _;have hX':Blk (w2.setCell ⟨w.heap.size+1,i,none⟩ (.bool (z == c))) w.heap.size 29 #[.slice (some ⟨qb,qo,none⟩) L cq]:=hX2.far_ (by omega) _;have hi1:0≤(i:Int):=by omega);have HD:=Zh hd';have HB:=Zh hb';have HX:=Zh hX';obtain ⟨v0,hv0⟩:∃ v0,((Qbv l c).take i ++List.replicate (n-i) false)[i]?=some v0:=⟨_,Zg (by rw [Yp,Yw,Qia,HN.out,List.length_replicate];omega)⟩;have c0':=hd2.cellB hv0;have x2:w2.cell? ⟨w.heap.size,0,none⟩=some (.slice (some ⟨qb,qo,none⟩) L cq):=Zq hX2;have x3:=HK0.out w2 hbw2;clear hv0;clear hd hb hd' hb' hz hd2 hX2 hX hX' x0 hb2 hbw2;(go_wp2_with fail);go_roundw;(case rel=>exact ⟨i+1,by go_num,by omega,HB.out,HX.out,HD.out⟩);case measure=>simp [intOf];omega};{(obtain rfl:i=n:=by omega);rw [Yy,Ye (by rw [Qia,HN.out];exact Zn _),List.replicate_zero,List.append_nil] at hd;(go_wp2_with fail);go_ret;exact ⟨_,rfl,hd,by omega,hb⟩}
set_option maxHeartbeats 1000000 in
theorem never_ok (n:Nat)(w:World)(hn:n≤1000000):Calls prog 110 #[.int .i64 n] w fun e w'=>e=.returned (.slice (some ⟨w.heap.size,0,none⟩) n n)∧Blk w' w.heap.size 2 (Qcf (List.replicate n 1152921504606846976))∧Below w.heap.size w w':=by
 have hmk:=Qeg n (by omega);go_enter func110,ntmps110
 go_wp2_with fail
 (refine Qaj ?_;intro w1 hw1);have hb1:Below w.heap.size w w1:=by rw [hw1];exact Qah
 have hd1:Blk w1 w.heap.size 2 (Qcf (List.replicate 0 1152921504606846976 ++List.replicate (n-0) 0)):=by{rw [hw1,Nat.sub_zero,List.replicate_zero,List.nil_append,←Qcd];exact Blk.new _ _ _};clear hw1;go_loopw [4] (fun q W=>∃ i:Nat,q=.int .i64 i∧i≤n∧Below w.heap.size w W∧Blk W w.heap.size 2 (Qcf (List.replicate i 1152921504606846976 ++List.replicate (n-i) 0))) (fun q _=>n-(intOf q).toNat)
 case atStart=>exact ⟨0,rfl,Nat.zero_le _,hb1,hd1⟩
 case round =>
  clear hb1 hd1;obtain ⟨i,rfl,hin,hb,hd⟩:=hrel;by_cases hlt:i<n
  {obtain ⟨v0,hv0⟩:∃ v0,(List.replicate i (1152921504606846976:Int) ++List.replicate (n-i) 0)[i]?=some v0:=⟨_,Zg (by simp;omega)⟩;have c0:=hd.cellI hv0;have f0:=hd.frozen i;have HD:=Zh (hd.setI (Qts n i hlt 1152921504606846976 0));have HB:=Zh (show Below w.heap.size w (wr.setCell ⟨w.heap.size,i,none⟩ (.int .i64 1152921504606846976)) from Zi hb (Zn _));(have i1:0≤(i:Int):=by omega);(have i2:(i:Int)<n:=by omega);clear hb hd hv0;(go_wp2_with fail);go_roundw;(case rel=>exact ⟨i+1,by go_num,by omega,HB.out,HD.out⟩);case measure=>simp [intOf];omega};{(obtain rfl:n=i:=by omega);(rw [Yy,List.replicate_zero,List.append_nil] at hd;have i2:¬((n:Int)<n):=by omega);(go_wp2_with fail);go_ret;exact ⟨rfl,hd,hb⟩}
theorem Qey (A:Option Addr)(n c v:Nat)(mk:List Bool)(w:World)(h:RdB w A n mk)(hv:v<n):Calls prog 160 #[.slice A n c,.int .i64 v] w fun e w'=>e=.returned (.bool (mk.getD v false))∧w=w':=by
 obtain ⟨b,o,x,rfl,hx,hc⟩:=h.at_ hv;have hxe:mk.getD v false=x:=by rw [Ya,hx];rfl
 rw [hxe];have i1:0≤(v:Int):=by omega
 have i2:(v:Int)<n:=by omega
 clear h hx hxe;go_enter func160,ntmps160
 exact Kcq
def Qcl (x y:Int):Int:=if x+y > 1152921504606846976 then 1152921504606846976 else x+y
theorem Qis (x:Int)(w:World)(h0:0≤x)(h1:x≤1152921504606846976):Calls prog 129 #[.int .i64 x] w fun e w'=>e=.returned (.int .i64 x)∧w=w':=by
 have i1:¬(x<0):=by omega
 have i2:¬(x > 1152921504606846976):=by omega
 go_enter func129,ntmps129
 exact Kcq
theorem Qse (x:Int)(w:World)(h1:x > 1152921504606846976):Calls prog 129 #[.int .i64 x] w fun e w'=>e=.returned (.int .i64 1152921504606846976)∧w=w':=by
 have i1:¬(x<0):=by omega
 go_enter func129,ntmps129
 exact Kcq
theorem Qfn (x y:Int)(w:World)(hx:0≤x∧x≤1152921504606846976)(hy:0≤y∧y≤1152921504606846976):Calls prog 74 #[.int .i64 x,.int .i64 y] w fun e w'=>e=.returned (.int .i64 (Qcl x y))∧w=w':=by
 have HX:=Zh (Qis x w hx.1 hx.2);have HY:=Zh (Qis y w hy.1 hy.2)
 have HZ:=Zh (show Calls prog 129 #[.int .i64 (x+y)] w fun e w'=>e=.returned (.int .i64 (Qcl x y))∧w=w' by
  unfold Qcl
  by_cases h:x+y > 1152921504606846976
  · rw [if_pos h];exact Qse _ w h
  · rw [if_neg h];exact Qis _ w (by omega) (by omega))
 have e1:IntKind.i64.wrap (x+y)=x+y:=IntWalk.i64_in _ (by omega);clear hx hy;go_enter func74,ntmps74
 exact Kbh
theorem Qgj {x y:Int}(hx:0≤x)(hy:0≤y):0≤Qcl x y∧Qcl x y≤1152921504606846976∧Qcl x y≤x+y∧(Qcl x y<1152921504606846976→Qcl x y=x+y):=by unfold Qcl;split <;> omega
def Qvu (d:List Int):Nat:=(d.map Int.toNat).sum
theorem Qtw:∀ (d:List Int)(b:Nat)(v x:Int),d[b]?=some x→0≤v→v<x→Qvu (d.set b v)<Qvu d
 | [],b,v,x,h,_,_=>by simp at h
 | z::t,0,v,x,h,h1,h2=>by
  simp at h;subst h;simp only [Qvu,Yj,List.map_cons,List.sum_cons];omega
 | z::t,b+1,v,x,h,h1,h2=>by
  have:=Qtw t b v x (by simpa using h) h1 h2;simp only [Qvu,Yk,List.map_cons,List.sum_cons] at this ⊢;omega
section
variable {N:Qam} {mk:List Bool} {s t:Nat} {d:List Int} {best:Int}
def Wi (mk:List Bool)(y:Tri):Prop:=mk.getD y.1.toNat false=true∧mk.getD y.2.1.toNat false=true
theorem Qlc {a b:Nat}{y:Tri}{e:Int} (hy:N.ar[b]?=some y):StA N mk a b e↔Qai N a b≠1152921504606846976∧y.2.2≠1152921504606846976∧Wi mk y∧e=Qai N a b+y.2.2:=by constructor;{rintro ⟨z,hz,h1,h2,h3,h4,h5⟩;rw [hy] at hz;cases hz;exact ⟨h1,h2,⟨h3,h4⟩,h5⟩};{rintro ⟨h1,h2,h3,h4⟩;exact ⟨y,hy,h1,h2,h3.1,h3.2,h4⟩}
def BfS (N:Qam)(mk:List Bool)(s t:Nat)(d:List Int)(best:Int)(k:Nat):Prop:=∀ (j b:Nat),j<k→(Qes N s)[j]?=some (b:Int)→(∀ e,StA N mk s b e→dAt d b≤e)∧(b=t→best≤Qai N s b)
def Qvd (x y:Int):Int:=if y<x then y else x
theorem Qqz {d:List Int}{b q:Nat}{v:Int}(hb:b<d.length):dAt (d.set b v) q=if b=q then v else dAt d q:=by unfold dAt;simp only [Ya];by_cases e:b=q;{subst e;rw [if_pos rfl,Yg hb];rfl};{rw [if_neg e,Yh e]}
theorem BfI.dir1 (h:BfI N mk s t d best)(hok:Qap N){b:Nat}(htn:Qai N s b≠1152921504606846976)(hb:b=t):BfI N mk s t d (Qvd best (Qai N s b)):=by have h1:=(Qcb hok s b).resolve_left htn;unfold Qvd;split;{rename_i hlt;subst hb;have:=h.out .start (Int.le_refl _) (show OuA N s b (Qai N s b) from ⟨htn,rfl⟩) h1.1 (by omega);rwa [Int.zero_add] at this};{exact h}
theorem BfI.dir2 (h:BfI N mk s t d best)(hok:Qap N){b:Nat}{y:Tri} (hy:N.ar[b]?=some y) (htn:Qai N s b≠1152921504606846976) (hw:y.2.2≠1152921504606846976) (hwi:Wi mk y):Qcl (Qai N s b) y.2.2=Qai N s b+y.2.2∧BfI N mk s t (d.set b (Qvd (dAt d b) (Qcl (Qai N s b) y.2.2))) best:=by
 have hst:=(Qlc (a:=s) (mk:=mk) hy).2 ⟨htn,hw,hwi,rfl⟩;have hbd:=hst.bd hok;have hbl:b<d.length:=by rw [h.len];exact (Zs hy).1
 have e:Qcl (Qai N s b) y.2.2=Qai N s b+y.2.2:=by unfold Qcl;rw [if_neg (by omega)]
 refine ⟨e,?_⟩;rw [e];unfold Qvd;split;{have:=h.less .start (Int.le_refl _) hst hbd.1 (by omega);rwa [Int.zero_add] at this};{have:d.set b (dAt d b)=d:=by{apply List.ext_getElem?;intro i;by_cases e2:b=i;{subst e2;rw [Yg hbl,Zg hbl];unfold dAt;rw [Ya,Zg hbl];rfl};{rw [Yh e2]}};rw [this];exact h}
theorem BfS.next {k b:Nat}{d':List Int}{best':Int}(h:BfS N mk s t d best k) (hb:(Qes N s)[k]?=some (b:Int)) (hd:∀ q,dAt d' q≤dAt d q) (hbb:best'≤best) (h1:∀ e,StA N mk s b e→dAt d' b≤e) (h2:b=t→best'≤Qai N s b):BfS N mk s t d' best' (k+1):=fun j q hj hq=>by by_cases e:j=k;{subst e;(rw [hb] at hq;have:(b:Int)=q:=Yv hq;obtain rfl:b=q:=by omega);exact ⟨h1,h2⟩};{obtain ⟨g1,g2⟩:=h j q (by omega) hq;exact ⟨fun e he=>Int.le_trans (hd q) (g1 e he),fun e=>Int.le_trans hbb (g2 e)⟩}
def BfR (N:Qam)(mk:List Bool)(t:Nat)(d:List Int)(best:Int)(a k:Nat):Prop:=∀ (p j b:Nat),p<a∨p=a∧j<k→(Qes N p)[j]?=some (b:Int)→dAt d p<1152921504606846976→(∀ e,StA N mk p b e→dAt d b≤dAt d p+e)∧(b=t→best≤dAt d p+Qai N p b)
theorem BfR.less {a k:Nat}{best':Int}(h:BfR N mk t d best a k)(hb:best'≤best):BfR N mk t d best' a k:=fun p j b hp hj hd=>by obtain ⟨h1,h2⟩:=h p j b hp hj hd;exact ⟨h1,fun e=>Int.le_trans hb (h2 e)⟩
theorem BfR.next {a k b:Nat}(h:BfR N mk t d best a k) (hb:(Qes N a)[k]?=some (b:Int)) (h1:dAt d a<1152921504606846976→(∀ e,StA N mk a b e→dAt d b≤dAt d a+e)∧(b=t→best≤dAt d a+Qai N a b)):BfR N mk t d best a (k+1):=fun p j q hp hq hd=>by by_cases e:p=a∧j=k;{obtain ⟨rfl,rfl⟩:=e;(rw [hb] at hq;have:(b:Int)=q:=Yv hq;obtain rfl:b=q:=by omega);exact h1 hd};{exact h p j q (by omega) hq hd}
theorem BfR.up {a k:Nat}(h:BfR N mk t d best a k) (hk:(Qes N a).length≤k∨¬dAt d a<1152921504606846976):BfR N mk t d best (a+1) 0:=fun p j b hp hj hd=>by by_cases e:p=a;{subst e;(rcases hk with hk|hk);{exact h p j b (.inr ⟨rfl,by have:=(Zs hj).1;omega⟩) hj hd};{exact absurd hd hk}};{exact h p j b (by omega) hj hd}
theorem BfI.fin (hok:Qap N)(h:BfI N mk s t d best) (hS:BfS N mk s t d best (Qes N s).length) (hR:BfR N mk t d best N.ar.length 0):Qet N mk s t best:=by
 have key:∀ p b:Nat,Qai N p b≠1152921504606846976→∃ j,(Qes N p)[j]?=some (b:Int):=fun p b hb=>Yr (Qyc.2 ⟨b,rfl,hb⟩)
 refine h.done hok (fun b e he=>?_) (fun e he=>?_) (fun a ha=>⟨fun b e he=>?_,fun e he=>?_⟩);{obtain ⟨y,_,h1,_⟩:=id he;obtain ⟨j,hj⟩:=key s b h1;exact (hS j b (Zs hj).1 hj).1 e he};{obtain ⟨j,hj⟩:=key s t he.1;rw [he.2];exact (hS j t (Zs hj).1 hj).2 rfl};{obtain ⟨y,_,h1,_⟩:=id he;obtain ⟨x,_,hx,_⟩:=Qbm h1;obtain ⟨j,hj⟩:=key a b h1;exact (hR a j b (.inl (Zs hx).1) hj ha).1 e he};{obtain ⟨x,_,hx,_⟩:=Qbm he.1;obtain ⟨j,hj⟩:=key a t he.1;rw [he.2];exact (hR a j t (.inl (Zs hx).1) hj ha).2 rfl}
theorem BfI.nb (h:BfI N mk s t d best)(hok:Qap N){a b:Nat}(ha:dAt d a<1152921504606846976)(htn:Qai N a b≠1152921504606846976)(hb:b=t) (hlt:Qcl (dAt d a) (Qai N a b)<best):BfI N mk s t d (Qcl (dAt d a) (Qai N a b)):=by
 have h1:=(Qcb hok a b).resolve_left htn;rcases h.at_ a with h2|⟨h2,_,c,e,hr⟩
 {omega};{(have hbl:best≤1152921504606846976:=by rcases h.best with g|⟨_,g,_⟩ <;> omega);have e2:=(Qgj h2 h1.1).2.2.2 (by omega);rw [e2] at hlt ⊢;subst hb;rw [e] at h2 hlt ⊢;exact h.out hr h2 (show OuA N a b (Qai N a b) from ⟨htn,rfl⟩) h1.1 hlt}
theorem BfI.nd (h:BfI N mk s t d best)(hok:Qap N){a b:Nat}{y:Tri}(ha:dAt d a<1152921504606846976)(htn:Qai N a b≠1152921504606846976) (hy:N.ar[b]?=some y) (hw0:0≤y.2.2) (hwi:Wi mk y) (hlt:Qcl (Qcl (dAt d a) (Qai N a b)) y.2.2<dAt d b) :
 BfI N mk s t (d.set b (Qcl (Qcl (dAt d a) (Qai N a b)) y.2.2)) best∧0≤Qcl (Qcl (dAt d a) (Qai N a b)) y.2.2:=by
 have h1:=(Qcb hok a b).resolve_left htn;rcases h.at_ a with h2|⟨h2,_,c,e,hr⟩
 {omega};{(have hdb:dAt d b≤1152921504606846976:=by rcases h.at_ b with g|⟨_,g,_⟩ <;> omega);have g1:=Qgj h2 h1.1;have g2:=Qgj g1.1 hw0;have e2:=g2.2.2.2 (by omega);have e3:=g1.2.2.2 (by omega);rw [e2,e3] at hlt ⊢;have hst:=(Qlc (a:=a) (mk:=mk) hy).2 ⟨htn,by omega,hwi,rfl⟩;rw [Int.add_assoc] at hlt ⊢;rw [e] at h2 hlt ⊢;exact ⟨h.less hr h2 hst (hst.bd hok).1 hlt,by omega⟩}
theorem BfR.nx (hok:Qap N){a k b:Nat}{y:Tri}(h:BfR N mk t d best a k) (hb:(Qes N a)[k]?=some (b:Int)) (hd0:0≤dAt d a) (htn:Qai N a b≠1152921504606846976) (hy:N.ar[b]?=some y) (hw0:0≤y.2.2) (hbest:b=t→best≤Qcl (dAt d a) (Qai N a b)) (hno:Wi mk y→dAt d b≤Qcl (Qcl (dAt d a) (Qai N a b)) y.2.2):BfR N mk t d best a (k+1):=by have h1:=(Qcb hok a b).resolve_left htn;have g1:=Qgj hd0 h1.1;have g2:=Qgj g1.1 hw0;refine h.next hb (fun _=>⟨fun e he=>?_,fun e=>?_⟩);{obtain ⟨_,_,h4,h5⟩:=(Qlc hy).1 he;have:=hno h4;omega};{have:=hbest e;omega}
def rowOf (V:World)(D:Nat):List Int:=match V.heap[D]? with
 | some (.cells cs _ _)=>cs.toList.map (fun v=>match v with | .int _ x=>x | _=>0)
 | _=>[]
theorem Qpx {V:World}{D:Nat}{ty:TypeId}{l:List Int} (h:Blk V D ty (Qcf l)):rowOf V D=l:=by unfold rowOf;rw [show V.heap[D]?=_ from h];simp only [Qcf,List.map_map];exact List.map_id l
end
end Go.Proofs.YtdheeddnkdhfeaaGreatDoor
