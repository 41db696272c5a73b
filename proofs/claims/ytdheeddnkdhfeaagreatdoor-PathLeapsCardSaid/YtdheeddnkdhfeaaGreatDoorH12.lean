/- Parts of the proof: One, All, Aq, AsP, Yb, Yc. -/
import Derived.Test.YtdheeddnkdhfeaaGreatDoorH11
import Derived.Laws.CopyOwn
namespace Go.Proofs.YtdheeddnkdhfeaaGreatDoor
open Go.RowKit Go.Proofs.Tryz
attribute [local go_sem ↓] Go.wp_at_zero Go.wp_at_succ
def OneR (w:World)(N:Qam)(l:List Int)(c:Nat)(x:Qan)(e:Ending)(w':World):Prop :=
 ∃ (A:Option Addr) (cp:Nat) (ces:List Int),e=.returned (.slice A (szG x) cp)∧RdI w' A (szG x) ces∧(∀ (a b s t:Nat),x.1[a]?=some (s:Int)→x.2[b]?=some (t:Int)→Qet N (Qbv l c) s t (ces.getD (a*x.2.length+b) 0))∧Below w.heap.size w w'
def LowE (N:Qam) (ls:List (List Int)) (i:Nat) (costs:List Int):Prop:=∀ (lb:List Int) (q:Nat) (y:Qan) (a b s t:Nat),ls[i]?=some lb→(Qaf N.ar lb)[q]?=some y→y.1[a]?=some (s:Int)→y.2[b]?=some (t:Int)→Qet N (Qbv lb q) s t (costs.getD (Qfi (Qae N.ar ls) (Qaf N.ar lb) i q y a b) 0)
theorem LowE.ex {N:Qam}(hok:Qap N) {ls:List (List Int)} {lb:List Int} {j:Nat} {costs:List Int} (h:LowE N ls j costs) (hb:ls[j]?=some lb) (hBv:Qgg N.vs.length lb) {l:List Int} {c:Nat} :
 ∀ (a m:Nat) (y z:Tri),Qci N l lb c a→N.ar[a]?=some y→N.ar[m]?=some z→Qaa lb z.1=Qaa lb y.2.1→Qaa lb z.2.1≠Qaa lb y.2.1→∃ v,Qet N (Qbv lb (Qaa lb y.2.1)) a m v:=fun a m y z hk hy hz h1 h2=>by obtain ⟨y',hy',k1,_⟩:=hk;rw [hy] at hy';cases hy';have ho:=hok.arcs y (Zm hy);have o0:=ho.g0;have o1:=ho.g1;obtain ⟨u,hu⟩:∃ u:Nat,y.2.1=(u:Int):=⟨y.2.1.toNat,by omega⟩;have e1:=Qdm (l:=lb) (v:=u) (by rw [hBv.len];omega);rw [←hu] at e1;obtain ⟨q,hq,g,hg⟩:=Qil (ar:=N.ar) hBv (Zm e1);rw [hq] at h1 h2 ⊢;obtain ⟨k,hk⟩:=Yr ((Qcw hg).2 ⟨y,hy,by rw [←hq];exact k1,hq⟩);obtain ⟨b,hb'⟩:=Yr ((Qbr hg).2 ⟨z,hz,h1,h2⟩);exact ⟨_,h lb q g k b a m hb hg hk hb'⟩
set_option maxHeartbeats 2000000 in
theorem one_ok (w:World)(g o i c:Nat)(N:Qam) (ls:List (List Int)) (l:List Int) (x:Qan) (CA:Option Addr) (NC cC:Nat) (costs:List Int) (hg:Qfh w g N) (hok:Qap N) (ho:Qgh w o N.ar ls) (hP:Qat N.vs.length ls) (hl:ls[i]?=some l) (hx:(Qaf N.ar l)[c]?=some x)
 (hc:RdI w CA NC costs) (hNC:Qbw (Qae N.ar ls)≤NC) (hNC2:NC≤1000000000) (hcost:∀ z∈costs,0≤z∧z≤1152921504606846976) (hlow:∀ j,i=j+1→LowE N ls j costs) :
 Calls prog 51 #[.pointer (some ⟨g,0,none⟩),.pointer (some ⟨o,0,none⟩),.int .i64 ((i:Int)+1),.int .i64 c,.slice CA NC cC] w (OneR w N l c x):=by
 have hla:=hok.la;have hL6:ls.length≤6:=hP.l6;have hi5:(i:Int)≤5:=by have:=(Zs hl).1;omega
 have hLv:=hP.lvl l (Zm hl);have hcM:c<(Qar l).toNat:=by rw [←Qaq N.ar l];exact (Zs hx).1
 have hcm:(c:Int)<((Qar l).toNat:Int):=by omega
 have HCE:=Zh (Qkq o i _ N.ar ls l w ho hl (by omega) rfl);have HGT:=Zh (Qgm o i c N.ar ls l x w ho hl (by omega) hx (by omega));have HG:=Zh hg;have HO:=Zh ho;have HP:=Zh hP;have HL:=Zh hl;have HX:=Zh hx;have HC:=Zh hc;have HCO:=Zh hcost;have HLOW:=Zh hlow;have HLL:=Zh hLv.len;have hgx:=Qbl hx;obtain ⟨MM,hMM⟩:=Zx ((Qar l).toNat);rw [←hMM] at HCE hcm;clear hg ho hP hl hx hc hcost hlow hLv hcM hMM;go_enter func51,ntmps51
 go_wp2_with fail
 with_reducible refine HCE.out.mono ?_
 rintro e w' ⟨rfl,rfl⟩;go_wp2_with fail
 with_reducible refine HGT.out.mono ?_
 rintro e w1 ⟨B1,m1,d1,B2,m2,d2,rfl,ho1,ho2,hb1⟩;have hm1:x.1.length=m1:=by have:=ho1.1;simpa [Qag] using this
 have hm2:x.2.length=m2:=by have:=ho2.1;simpa [Qag] using this
 have HO1:=Zh ho1;have HO2:=Zh ho2;have HB1:=Zh hb1;clear ho1 ho2 hb1;by_cases h10:m1=0;{have HE:=Zh h10;subst h10;(go_wp2_with fail);go_ret;refine ⟨none,0,[],by unfold szG;rw [hm1,Nat.zero_mul];rfl,⟨by unfold szG;rw [hm1,Nat.zero_mul];rfl,fun i x h=>by simp at h⟩,fun a b s t h=>?_,(HB1.out.trans ((Zr _ _).alloc (Zn _) _ |>.mono HB1.out.size))⟩;have:=(Zs h).1;omega}
 · (have e10:((m1:Int) == 0)=false:=by simp;omega);by_cases h20:m2=0;{have HE:=Zh h20;subst h20;(go_wp2_with fail);go_ret;refine ⟨none,0,[],by unfold szG;rw [hm2,Nat.mul_zero];rfl,⟨by unfold szG;rw [hm2,Nat.mul_zero];rfl,fun i x h=>by simp at h⟩,fun a b s t _ h=>?_,(HB1.out.trans ((Zr _ _).alloc (Zn _) _ |>.mono HB1.out.size))⟩;have:=(Zs h).1;omega}
   · (have e20:((m2:Int) == 0)=false:=by simp;omega);rcases Nat.eq_zero_or_pos i with hi0|hi0
     · subst hi0;(go_wp2_with fail);(refine Qaj ?_;intro w2 hw2);(have hb2:Below w1.heap.size w1 w2:=by rw [hw2];exact Qah);(have hX2:Blk w2 w1.heap.size 135 #[.slice B1 m1 d1,.slice B2 m2 d2]:=by rw [hw2];exact Blk.new _ _ _);clear hw2;have x1:w2.cell? ⟨w1.heap.size,1,none⟩=some (.slice B2 m2 d2):=Zq hX2;have HB2:=Zh (Zb HB1.out hb2);have HBA:=Zh (fun V (hV:Below w2.heap.size w2 V)=>Qwt V g N l c x B1 B2 m1 m2 d1 d2 (HG.out.below (Zb (Zb HB1.out hb2) hV)) hok HLL.out HX.out ((HO1.out.below hb2).rds.rdI.below hV) ((HO2.out.below hb2).rds.rdI.below hV));have HSX:=Zh (show ∀ V,Blk V w1.heap.size 135 #[.slice B1 m1 d1,.slice B2 m2 d2]→V.cell? ⟨w1.heap.size,0,none⟩=some (.slice B1 m1 d1)∧V.cell? ⟨w1.heap.size,1,none⟩=some (.slice B2 m2 d2) from fun V hV=>⟨hV.two.1,hV.two.2.1⟩);(clear hb2;refine wp_region_held_drew (S:=fun V=>Blk V w1.heap.size 135 #[.slice B1 m1 d1,.slice B2 m2 d2]) (by kernel_rfl) hX2.drew (fun _=>?_);refine tzb 0 37 ?_;refine tzb 3 40 ?_;refine tz 5 42 ?_;refine Zk 2 (fun K hK=>?_);go_simp;with_reducible refine (HBA.out _ (Zr _ _).drew).mono ?_);rintro e w3 ⟨SA,sc,c9,arcs,L,rfl,hS,hNx,hFA,hFl,hnil,hnd,har,hins,hn1,hb3⟩;have hb23:Below w2.heap.size w2 w3:=(Zr _ _).drew.trans hb3;have hX3:=hX2.below hb23 hX2.lt;go_simp;refine hK.out _ _ hX3 (fun _=>?_);clear hK K;refine Zk 6 (fun K hK=>?_);go_simp
       have HLE:=Zh (Qth w3 arcs.length m1 sc m2 _ SA _ (List.range m1) L MB 4294967296 hS (fun s hs=>by have:=List.mem_range.1 hs;omega) har (by omega) (by omega) (by omega) hNx hFl hnil (fun s hs p d hr=>by
        have hs':=List.mem_range.1 hs;exact hFA.bound hok HLL.out HX.out (Zg (by omega)) hnd p d hr) (by unfold MB;omega) (by omega) (by unfold MB;omega))
       (have HFA:=Zh hFA;have HINS:=Zh hins;have HB3:=Zh (Zb HB2.out hb23);clear hS hNx hFA hFl hnil hnd har hins hn1 hb3 hb23;with_reducible refine HLE.out.mono ?_);rintro e w4 ⟨bb,ces,rfl,hbb,hcl,hlst,hbs,hb4⟩;have hX4:=hX3.below hb4 hX3.lt;have HBB:=Zh hbb;have HCL:=Zh hcl;have HLST:=Zh hlst;have HB4:=Zh (Zb HB3.out hb4);clear hbb hcl hlst hbs hb4;go_simp;refine hK.out _ _ hX4 (fun _=>?_);clear hK K;refine tz 7 10 ?_;refine Zd ?_;(go_wp2_with fail);go_ret;(have hsz:szG x=m1*m2:=by unfold szG;rw [hm1,hm2]);refine ⟨some ⟨bb,0,none⟩,m1*m2,ces,by rw [hsz];rfl,by rw [hsz];exact HBB.out.rdI HCL.out,fun a b s t ha hb=>?_,HB4.out⟩;have ha':=(Zs ha).1;have hb':=(Zs hb).1;rw [hm2];exact HFA.out.entry hok HLL.out HX.out (HINS.out a s ha) hb (HLST.out a a b (by rw [List.getElem?_range (by omega)]) (by omega))
     · obtain ⟨j,rfl⟩:∃ j,i=j+1:=⟨i-1,by omega⟩;obtain ⟨lb,hlb⟩:∃ lb,ls[j]?=some lb:=⟨_,Zg (by have:=(Zs HL.out).1;omega)⟩;have hE:=HLOW.out j rfl;have hBv:=HP.out.lvl lb (Zm hlb);have hnest:=HP.out.nest j lb l hlb HL.out;have hbt:((x.2.getD 0 0).toNat:Int)∈x.2:=by{obtain ⟨z,hz⟩:∃ z,x.2[0]?=some z:=⟨_,Zg (by omega)⟩;obtain ⟨m,rfl⟩:=Qdc HX.out hz;rw [Ya,hz];exact Zm hz};(have HEX:=Zh (hE.ex hok hlb hBv (l:=l) (c:=c));have e30:((j:Int)+1+1 == 1)=false:=by simp;omega);have HLB:=Zh hlb;have HEE:=Zh hE;have HBV:=Zh hBv;have HNE:=Zh hnest;have HBT:=Zh hbt;clear hlb hE hBv hnest hbt;(go_wp2_with fail);(refine Qaj ?_;intro w2 hw2);(have hb2:Below w1.heap.size w1 w2:=by rw [hw2];exact Qah);(have hX2:Blk w2 w1.heap.size 135 #[.slice B1 m1 d1,.slice B2 m2 d2]:=by rw [hw2];exact Blk.new _ _ _);clear hw2;have hbw2:=Zb HB1.out hb2;have HB2:=Zh hbw2;have HBK:=Zh (fun V (hV:Below w2.heap.size w2 V)=>Qwu V g o j c N ls l lb x B1 B2 CA m1 m2 d1 d2 NC cC costs (HG.out.below (Zb hbw2 hV)) hok (HO.out.below (Zb hbw2 hV)) HP.out HL.out HLB.out HX.out ((HO1.out.below hb2).rds.rdI.below hV) ((HO2.out.below hb2).rds.rdI.below hV) (HC.out.below (Zb hbw2 hV)) hNC hNC2 HCO.out (fun q y a b s t h1 h2 h3=>HEE.out lb q y a b s t HLB.out h1 h2 h3));have HSX:=Zh (show ∀ V,Blk V w1.heap.size 135 #[.slice B1 m1 d1,.slice B2 m2 d2]→V.cell? ⟨w1.heap.size,0,none⟩=some (.slice B1 m1 d1)∧V.cell? ⟨w1.heap.size,1,none⟩=some (.slice B2 m2 d2) from fun V hV=>⟨hV.two.1,hV.two.2.1⟩);(clear hb2 hbw2;refine wp_region_held_drew (S:=fun V=>Blk V w1.heap.size 135 #[.slice B1 m1 d1,.slice B2 m2 d2]) (by kernel_rfl) hX2.drew (fun _=>?_);refine tzd 0 44 ?_;refine tzb 4 48 ?_;refine tzb 7 51 ?_;refine tz 9 53 ?_;refine Zk 6 (fun K hK=>?_);go_simp;with_reducible refine (HBK.out _ (Zr _ _).drew).mono ?_);(rintro e w3 ⟨SA,sc,cs,cl,cc,pl,starts,L,rfl,hS,hNx,hFB,hnil,hpl,hst,hb3⟩;have hb23:Below w2.heap.size w2 w3:=(Zr _ _).drew.trans hb3;have hX3:=hX2.below hb23 hX2.lt;go_simp;refine hK.out _ _ hX3 (fun _=>?_);clear hK K;refine Zk 10 (fun K hK=>?_);go_simp;have hstl:starts.length=m1:=by have:=hS.1;rw [Qdf] at this;exact this);have hstp:∀ p∈starts,∃ s,pl[p]?=some s:=fun p hp=>by{obtain ⟨k,hk⟩:=Yr hp;have hkl:=(Zs hk).1;obtain ⟨z,hz⟩:∃ z,x.1[k]?=some z:=⟨_,Zg (by omega)⟩;obtain ⟨s,rfl⟩:=Qfk HX.out hz;obtain ⟨p',e1,e2⟩:=hst k s hz;rw [hk] at e1;cases e1;exact ⟨s,e2⟩};have hFl:=hFB.fld hok;rw [hm2] at hFl
       have HLE:=Zh (Qth w3 pl.length m1 sc m2 _ SA _ starts L MB 70377334112256 hS (fun s hs=>by obtain ⟨s',e⟩:=hstp s hs;exact (Zs e).1) hpl (by omega) (by omega) (by omega) hNx hFl hnil (fun s hs p d hr=>by
        obtain ⟨s',e⟩:=hstp s hs;exact hFB.bound hok HLL.out HBV.out.len HNE.out HX.out HEX.out _ HBT.out e p d hr) (by unfold MB;omega) (by omega) (by unfold MB;omega))
       (have HFB:=Zh hFB;have HST:=Zh hst;have HB3:=Zh (Zb HB2.out hb23);clear hS hNx hFB hFl hnil hpl hst hb3 hb23 hstl hstp;with_reducible refine HLE.out.mono ?_);rintro e w4 ⟨bb,ces,rfl,hbb,hcl,hlst,hbs,hb4⟩;have hX4:=hX3.below hb4 hX3.lt;have HBB:=Zh hbb;have HCL:=Zh hcl;have HLST:=Zh hlst;have HB4:=Zh (Zb HB3.out hb4);clear hbb hcl hlst hbs hb4;go_simp;refine hK.out _ _ hX4 (fun _=>?_);clear hK K;refine tz 11 10 ?_;refine Zd ?_;(go_wp2_with fail);go_ret;(have hsz:szG x=m1*m2:=by unfold szG;rw [hm1,hm2]);refine ⟨some ⟨bb,0,none⟩,m1*m2,ces,by rw [hsz];rfl,by rw [hsz];exact HBB.out.rdI HCL.out,fun a b s t ha hb=>?_,HB4.out⟩;have ha':=(Zs ha).1;have hb':=(Zs hb).1;rw [hm2];obtain ⟨p,e1,e2⟩:=HST.out a s ha;exact HFB.out.entry hok HLL.out HBV.out.len HNE.out HX.out HEX.out e2 hb (HLST.out a p b e1 (by omega))
def Qgi (N:Qam) (ls:List (List Int)) (i c:Nat) (cl:List Int):Prop:=∀ (k:Nat) (lb:List Int) (q:Nat) (y:Qan) (a b s t:Nat),k<i∨k=i∧q<c→ls[k]?=some lb→(Qaf N.ar lb)[q]?=some y→y.1[a]?=some (s:Int)→y.2[b]?=some (t:Int)→Qet N (Qbv lb q) s t (cl.getD (Qfi (Qae N.ar ls) (Qaf N.ar lb) k q y a b) 0)
def Qly (cl:List Int):Prop:=∀ z∈cl,0≤z∧z≤1152921504606846976
theorem Qrh {L cs:List Int}{off k:Nat}(h:off+cs.length≤L.length) :
 (splice L off cs).getD k 0=if k<off then L.getD k 0 else if k<off+cs.length then cs.getD (k-off) 0 else L.getD k 0:=by
 unfold splice;simp only [Ya];by_cases h1:k<off
 {rw [if_pos h1,Yc (by simp;omega),List.getElem?_take_of_lt h1]};{rw [if_neg h1];(have hl:(L.take off).length=off:=by rw [Yw];omega);rw [Yb (by omega),hl];(by_cases h2:k<off+cs.length);{rw [if_pos h2,Yc (by omega)]};{rw [if_neg h2,Yb (by omega),List.getElem?_drop];(congr 2);omega}}
theorem Qvr {L cs:List Int}{off:Nat}{z:Int}(h:z∈splice L off cs):z∈L∨z∈cs:=by
 unfold splice at h;simp only [List.mem_append] at h;rcases h with h|h|h
 {exact .inl (List.mem_of_mem_take h)};{exact .inr h};{exact .inl (List.mem_of_mem_drop h)}
theorem Qnp (L cs:List Int)(off:Nat):splice (Qag L) off (Qag cs)=Qag (splice L off cs):=by unfold splice Qag;simp [List.map_take,List.map_drop]
theorem Qpg {N:Qam}{l:List Int}{c:Nat}{x:Qan} (hx:(Qaf N.ar l)[c]?=some x) {k:Nat} (hk:k<szG x) :
 ∃ a b s t:Nat,k=a*x.2.length+b∧x.1[a]?=some (s:Int)∧x.2[b]?=some (t:Int):=by
 have hk2:k<x.1.length*x.2.length:=hk
 generalize hm:x.2.length=m at hk2
 have hn2:0<m:=by
  rcases Nat.eq_zero_or_pos m with h|h
  {rw [h,Nat.mul_zero] at hk2;omega};{exact h}
 have hb:k % m<m:=Nat.mod_lt k hn2
 have ha:k / m<x.1.length:=(Nat.div_lt_iff_lt_mul hn2).2 hk2
 have e:k=k / m*m+k % m:=by have:=Nat.div_add_mod k m;rw [Nat.mul_comm] at this;exact this.symm
 obtain ⟨a,h1⟩:=Zx (k / m);obtain ⟨b,h2⟩:=Zx (k % m);rw [←h1] at ha e;rw [←h2] at hb e;obtain ⟨z1,h3⟩:∃ z,x.1[a]?=some z:=⟨_,Zg ha⟩;obtain ⟨z2,h4⟩:∃ z,x.2[b]?=some z:=⟨_,Zg (by rw [hm];exact hb)⟩;obtain ⟨s,hs⟩:=Qfk hx h3;obtain ⟨t,ht⟩:=Qdc hx h4;exact ⟨a,b,s,t,e,by rw [h3,hs],by rw [h4,ht]⟩
theorem Qly.next {N:Qam}(hok:Qap N){l:List Int}{c off:Nat}{x:Qan}{cl ces:List Int}(h:Qly cl) (hx:(Qaf N.ar l)[c]?=some x) (hl:ces.length=szG x)
 (he:∀ (a b s t:Nat),x.1[a]?=some (s:Int)→x.2[b]?=some (t:Int)→Qet N (Qbv l c) s t (ces.getD (a*x.2.length+b) 0)):Qly (splice cl off ces):=fun z hz=>by
 rcases Qvr hz with h1|h1
 {exact h z h1};{obtain ⟨k,hk⟩:=Yr h1;have hk':=(Zs hk).1;obtain ⟨a,b,s,t,e,h2,h3⟩:=Qpg hx (k:=k) (by omega);have h4:=he a b s t h2 h3;rw [←e,Ya,hk] at h4;have:=h4.bd hok;simp at this;omega}
theorem Qgi.next {N:Qam} {ls:List (List Int)} {i c:Nat} {l:List Int} {x:Qan} {cl ces:List Int} (h:Qgi N ls i c cl) (hl:ls[i]?=some l) (hx:(Qaf N.ar l)[c]?=some x) (hn:ces.length=szG x)
 (hfit:Qbw ((Qae N.ar ls).take i)+Qea ((Qaf N.ar l).take c)+szG x≤cl.length)
 (he:∀ (a b s t:Nat),x.1[a]?=some (s:Int)→x.2[b]?=some (t:Int)→Qet N (Qbv l c) s t (ces.getD (a*x.2.length+b) 0)) :
 Qgi N ls i (c+1) (splice cl (Qbw ((Qae N.ar ls).take i)+Qea ((Qaf N.ar l).take c)) ces):=fun k lb q y a b s t hk hb hy h1 h2=>by
 have ha':=(Zs h1).1;have hb':=(Zs h2).1;rw [Qrh (by omega)];by_cases hkq:k<i∨k=i∧q<c
 {have hlt:Qfi (Qae N.ar ls) (Qaf N.ar lb) k q y a b<Qbw ((Qae N.ar ls).take i)+Qea ((Qaf N.ar l).take c):=by{(rcases hkq with h3|⟨rfl,h3⟩);{have e1:=Qjk (Qbu (ar:=N.ar) hb) hy ha' hb';have e2:=Qig (Qae N.ar ls) (show k+1≤i from h3);omega};{rw [hl] at hb;cases hb;have e1:=Qra (gs:=Qae N.ar ls) (i:=k) hy ha' hb';have e2:=Qih (Qaf N.ar l) (show q+1≤c from h3);omega}};rw [if_pos hlt];exact h k lb q y a b s t hkq hb hy h1 h2};{(obtain ⟨rfl,rfl⟩:k=i∧q=c:=by omega);rw [hl] at hb;cases hb;rw [hx] at hy;cases hy;have hin:a*x.2.length+b<szG x:=by{unfold szG;have e1:(a+1)*x.2.length≤x.1.length*x.2.length:=Nat.mul_le_mul_right _ ha';rw [Nat.add_mul,Nat.one_mul] at e1;omega};(rw [if_neg (by unfold Qfi;omega),if_pos (by unfold Qfi;omega)];have:Qfi (Qae N.ar ls) (Qaf N.ar l) k q x a b-(Qbw ((Qae N.ar ls).take k)+Qea ((Qaf N.ar l).take q))=a*x.2.length+b:=by unfold Qfi;omega);rw [this];exact he a b s t h1 h2}
theorem Qgi.start (N:Qam) (ls:List (List Int)) (cl:List Int):Qgi N ls 0 0 cl:=fun k lb q y a b s t hk=>by omega
theorem Qgi.up {N:Qam} {ls:List (List Int)} {i c:Nat} {l:List Int} {cl:List Int} (h:Qgi N ls i c cl) (hl:ls[i]?=some l) (hc:(Qaf N.ar l).length≤c):Qgi N ls (i+1) 0 cl:=fun k lb q y a b s t hk hb hy h1 h2=>by
 refine h k lb q y a b s t ?_ hb hy h1 h2;by_cases e:k<i
 {exact .inl e};{(obtain rfl:k=i:=by omega);rw [hl] at hb;cases hb;have:=(Zs hy).1;exact .inr ⟨rfl,by omega⟩}
theorem Qgi.low {N:Qam} {ls:List (List Int)} {i c j:Nat} {cl:List Int} (h:Qgi N ls i c cl) (hj:j<i):LowE N ls j cl:=fun lb q y a b s t hb hy h1 h2=>h j lb q y a b s t (.inl hj) hb hy h1 h2
theorem Qwz {w:World}{ops:Array Oper}{o:Oper}{a:Act}{K:Act→World→Prop}{Q:Exit→Act→World→Prop}{E:Prop}(d':Option Tmp)(hd':o.dst=d')(hgd:o.guard=none)(d s:Operand)
 (ho:o.op=.call { callee:=.builtin .copy,args:=#[d,s],argTypes:=#[36,36] })
 (A:Option Addr) (n cp B off N:Nat) (cl ces:List Int) (hd:a.eval d=.slice (cutA 1 (some ⟨B,0,none⟩) off N) (N-off) (N-off)) (hs:a.eval s=.slice A n cp)
 (hB:Blk w B 2 (Qag cl).toArray) (hcl:cl.length=N) (hA:RdI w A n ces) (hfit:off+n≤N)
 (h:∀ w',Blk w' B 2 (Qag (splice cl off ces)).toArray→Below B w w'→K (a.put d' (.int .i64 n)) w') :
 if Region.wanted o (yielded ops a.tmps)=true then Oper.wp prog o a w K Q else E:=by
 subst hd';have hlen:ces.length=n:=hA.1
 refine step_copy_splice hgd d s 36 36 ho 2 underlying36 (by kernel_rfl) _ A _ _ n cp hd hs B off (Qag cl) 2 hB (Qag ces) (by rw [show (Qag ces).length=n by simp [Qag,hlen]];exact (Nat.min_eq_left (by omega)).symm) (fun hp=>?_)
  (by simp [Qag,hlen,hcl];omega) (Qao _) B w (Zr _ _) (Zn _) (fun w' h1 h2=>?_)
 {(have hn:0<n:=by simpa [Qag,hlen] using hp);refine ⟨by unfold cutA;rw [if_neg (by omega)];by_cases h0:off=0 <;> simp [Addr.add,h0],?_⟩;obtain ⟨z,hz⟩:∃ z,ces[0]?=some z:=⟨_,Zg (by omega)⟩;obtain ⟨b,o',e,_⟩:=hA.2 0 z hz;refine ⟨_,e,fun j v hv=>?_⟩;have hj:∃ x,ces[j]?=some x∧v=.int .i64 x:=by{simp [Qag] at hv;obtain ⟨x,e1,e2⟩:=hv;exact ⟨x,e1,e2.symm⟩};obtain ⟨x,hx,rfl⟩:=hj;obtain ⟨b2,o2,e2,hc⟩:=hA.2 j x hx;rw [e] at e2;cases e2;unfold Addr.add;by_cases h0:j=0;{rw [if_pos h0];subst h0;exact hc};{rw [if_neg h0];exact hc}};{have hw:=h w' (by rw [←Qnp];exact h1.out) h2;rw [show goInt (Qag ces).length=Value.int .i64 (n:Int) by simp [Qag,hlen,goInt]];exact hw}
def AllR (w:World)(N:Qam) (ls:List (List Int)) (e:Ending) (w':World):Prop :=
 ∃ (B:Nat) (cl:List Int),e=.returned (.slice (some ⟨B,0,none⟩) (Qbw (Qae N.ar ls)) (Qbw (Qae N.ar ls)))∧w.heap.size≤B∧Blk w' B 2 (Qag cl).toArray∧cl.length=Qbw (Qae N.ar ls)∧Qly cl∧Qgi N ls ls.length 0 cl∧Below w.heap.size w w'
set_option maxHeartbeats 2000000 in
theorem all_ok (w:World)(g o:Nat)(N:Qam) (ls:List (List Int)) (hg:Qfh w g N) (hok:Qap N) (ho:Qgh w o N.ar ls) (hP:Qat N.vs.length ls) (hNC:Qbw (Qae N.ar ls)≤1000000000) :
 Calls prog 14 #[.pointer (some ⟨g,0,none⟩),.pointer (some ⟨o,0,none⟩)] w (AllR w N ls):=by
 have hL6:ls.length≤6:=hP.l6;have HG:=Zh hg;have HO:=Zh ho;have HP:=Zh hP;obtain ⟨NC,hNCe⟩:=Zx (Qbw (Qae N.ar ls));have HSZ:=Zh (Qic o N.ar ls w ho);rw [←hNCe] at HSZ hNC;have HNC:=Zh hNCe;obtain ⟨L,hL⟩:=Zx ls.length;have HL:=Zh hL;rw [←hL] at hL6;have hmk:=Qeg NC (by omega);clear hg ho hP hNCe hL;go_enter func14,ntmps14
 go_wp2_with fail
 with_reducible refine HSZ.out.mono ?_
 rintro e w' ⟨rfl,rfl⟩;go_wp2_with fail
 (refine Qaj ?_;intro w1 hw1);have hb1:Below w.heap.size w w1:=by rw [hw1];exact Qah
 have hB1:Blk w1 w.heap.size 2 (Qag (List.replicate NC 0)).toArray:=by rw [hw1,show (Qag (List.replicate NC 0)).toArray=Qbs (.int .i64 0) NC by simp [Qag,Qbs]];exact Blk.new _ _ _
 clear hw1;obtain ⟨B,hBe⟩:=Zx w.heap.size;rw [←hBe] at hb1 hB1 ⊢;have HBE:=Zh hBe;clear hBe;go_loopw [6,7] (fun z q V=>Below B w V∧∃ (i at_:Nat) (cl:List Int),i≤L∧q=.int .i64 ((i:Int)+1)∧z=.int .i64 (at_:Nat)∧at_=Qbw ((Qae N.ar ls).take i)∧Blk V B 2 (Qag cl).toArray∧cl.length=NC∧Qly cl∧Qgi N ls i 0 cl) (fun _ q _=>L+1-(intOf q).toNat)
 case atStart=>exact ⟨hb1,0,0,List.replicate NC 0,Nat.zero_le _,rfl,rfl,by simp [Qbw],hB1,by simp,fun z hz=>by have:=List.eq_of_mem_replicate hz;omega,Qgi.start _ _ _⟩
 case round =>
  obtain ⟨hbl,i,at_,cl,hi,rfl,rfl,hat,hB,hcl,hco,hdo⟩:=hrel;have HLV:=Zh (Qhk o N.ar ls wr (HO.out.below (by rw [←HBE.out];exact hbl)));rw [←HL.out] at HLV;by_cases hiL:i<L
  rotate_left;{(obtain rfl:i=L:=by omega);(have i1:¬((i:Int)+1≤i):=by omega);have HAT:=Zh hat;have HB:=Zh hB;have HCL:=Zh hcl;have HCO:=Zh hco;have HDO:=Zh hdo;clear hat hB hcl hco hdo;(go_wp2_with fail);(with_reducible refine HLV.out.mono ?_);rintro e w' ⟨rfl,rfl⟩;(go_wp2_with fail);go_ret;exact ⟨B,cl,by rw [←HNC.out];rfl,by rw [HBE.out];exact Zn _,HB.out,by rw [←HNC.out];exact HCL.out,HCO.out,by rw [←HL.out];exact HDO.out,by rw [←HBE.out];exact hbl⟩}
  · (have i1:(i:Int)+1≤L:=by omega);(obtain ⟨l,hl⟩:∃ l,ls[i]?=some l:=⟨_,Zg (by rw [←HL.out];exact hiL)⟩;obtain ⟨M,hM⟩:=Zx ((Qaf N.ar l).length);have HM:=Zh hM;have HCE:=Zh (Qkq o i M N.ar ls l wr (HO.out.below (by rw [←HBE.out];exact hbl)) hl (by rw [←HL.out];omega) (by rw [hM,Qaq]));have HLJ:=Zh hl;have HAT:=Zh hat;have HB:=Zh hB;have HCL:=Zh hcl;have HCO:=Zh hco;have HDO:=Zh hdo;have hatb:at_≤NC:=by rw [hat,HNC.out];exact Qgc _ _);have hMb:M≤4096:=by{have h1:=HP.out.lvl l (Zm hl);have h2:=Qcg (l:=l) (n:=(N.vs.length:Int)) (fun x hx=>h1.hi x hx) (by omega);have h3:=hok.lv;rw [hM,Qaq];omega};clear hat hB hcl hco hdo hl hM;(go_wp2_with fail);(with_reducible refine HLV.out.mono ?_);rintro e w' ⟨rfl,rfl⟩;(go_wp2_with fail);(with_reducible refine HCE.out.mono ?_);rintro e w' ⟨rfl,rfl⟩;(go_wp2_with fail);clear HLV HCE;(go_loopw [6,21] (fun z q V=>Below B w V∧∃ (c at2:Nat) (cl:List Int),c≤M∧q=.int .i64 (c:Nat)∧z=.int .i64 (at2:Nat)∧at2=Qbw ((Qae N.ar ls).take i)+Qea ((Qaf N.ar l).take c)∧Blk V B 2 (Qag cl).toArray∧cl.length=NC∧Qly cl∧Qgi N ls i c cl) (fun _ q _=>M-(intOf q).toNat));case atStart=>exact ⟨hbl,0,at_,cl,Nat.zero_le _,rfl,rfl,by rw [HAT.out];simp [Qea],HB.out,HCL.out,HCO.out,HDO.out⟩
    case round =>
     obtain ⟨hbl2,c,at2,cl,hc,rfl,rfl,hat,hB,hcl,hco,hdo⟩:=hrel;have HAT2:=Zh hat;have HB2:=Zh hB;have HCL2:=Zh hcl;have HCO2:=Zh hco;have HDO2:=Zh hdo;clear HB HCL HCO HDO;(by_cases hcM:c<M);rotate_left;{(obtain rfl:c=M:=by omega);clear hat hB hcl hco hdo;(go_wp2_with fail);go_roundw;(case rel=>exact ⟨hbl2,i+1,at2,cl,by omega,by go_num,rfl,by rw [Qdh (Qbu HLJ.out),HAT2.out,Ye (l:=Qaf N.ar l) (by rw [←HM.out];exact Zn _)],HB2.out,HCL2.out,HCO2.out,HDO2.out.up HLJ.out (by rw [←HM.out];exact Zn _)⟩);case measure=>simp [intOf];omega}
     · obtain ⟨x,hx⟩:∃ x,(Qaf N.ar l)[c]?=some x:=⟨_,Zg (by rw [←HM.out];exact hcM)⟩;have HX:=Zh hx;have hat3:at2+szG x≤NC:=by{have e1:=Qjs (Qaf N.ar l) (c+1);have e2:=Qgc (Qae N.ar ls) (i+1);rw [Qdh (Qbu HLJ.out),←HNC.out] at e2;rw [Qdi hx] at e1;omega};(have HON:=Zh (fun V (hV:Below wr.heap.size wr V)=>one_ok V g o i c N ls l x (some ⟨B,0,none⟩) NC NC cl (HG.out.below (Zb (by rw [←HBE.out];exact hbl2) hV)) hok (HO.out.below (Zb (by rw [←HBE.out];exact hbl2) hV)) HP.out HLJ.out hx ((Blk.below hB hV hB.lt).rdI hcl) (by rw [←HNC.out];exact Zn _) hNC hco (fun j hj=>hdo.low (by omega)));have hsl:=fun W=>Qyz (P:=prog) 36 2 1 underlying36 (by kernel_rfl) (by kernel_rfl) (some ⟨B,0,none⟩) NC NC at2 (NC-at2) (by omega) rfl .i64 (at2:Int) rfl W);clear hat hB hcl hco hdo hx;(go_wp2_with fail);(refine wp_region_held_drew (S:=fun _=>True) (by kernel_rfl) trivial (fun _=>?_);refine tzd 0 24 ?_;refine tzd 4 28 ?_;refine tz 8 32 ?_;refine Zk 9 (fun K hK=>?_);go_simp;with_reducible refine (HON.out _ (Zr _ _).drew).mono ?_);(rintro e w3 ⟨A,cp,ces,rfl,hA,hent,hb3⟩;have hb23:Below wr.heap.size wr w3:=(Zr _ _).drew.trans hb3;have HB3:=Zh (Blk.below HB2.out hb23 HB2.out.lt);have HA:=Zh hA;have HE:=Zh hent;clear hA hent hb3;go_simp;refine hK.out _ _ trivial (fun _=>?_);clear hK K;refine Zk 10 (fun K hK=>?_);with_reducible refine Qwz (some 34) rfl rfl (.tmp 27) (.tmp 33) rfl A (szG x) cp B at2 NC cl ces rfl rfl HB3.out HCL2.out HA.out hat3 ?_);intro w4 hB4 hb4;have HB4:=Zh hB4;have hbw4:Below B w w4:=hbl2.trans ((hb23.mono (by have:=HB2.out.lt;omega)).trans hb4);clear hB4 hb4 hb23;go_simp;refine hK.out _ _ trivial (fun _=>?_);clear hK K;refine tz 11 35 ?_;refine tz 12 6 ?_;refine Zd ?_;(go_wp2_with fail);go_roundw
       case rel=>exact ⟨hbw4,c+1,at2+szG x,splice cl at2 ces,by omega,by go_num,by rw [IntWalk.i64_in _ (by omega)];rfl,by rw [Qdi HX.out,HAT2.out];omega,HB4.out,by rw [length_splice _ _ _ (by rw [HA.out.1,HCL2.out];exact hat3)];exact HCL2.out,HCO2.out.next hok HX.out HA.out.1 HE.out,by
        have:=HDO2.out.next HLJ.out HX.out HA.out.1 (by rw [HCL2.out,←HAT2.out];exact hat3) HE.out;rw [←HAT2.out] at this;exact this⟩
       case measure=>simp [intOf];omega
theorem Qsh:∀ (l:List Nat)(k:Nat),k<l.sum→∃ i,i<l.length∧(l.take i).sum≤k∧k<(l.take (i+1)).sum
 | [],k,h=>by simp at h
 | x::t,k,h=>by
  by_cases hk:k<x
  {exact ⟨0,by simp,by simp,by simpa using hk⟩};{simp only [List.sum_cons] at h;obtain ⟨i,h1,h2,h3⟩:=Qsh t (k-x) (by omega);refine ⟨i+1,by simp;omega,?_,?_⟩;{simp only [List.take_succ_cons,List.sum_cons];omega};{simp only [List.take_succ_cons,List.sum_cons] at h3 ⊢;omega}}
structure Qfs (N:Qam) (ls:List (List Int)) (k i:Nat) (l:List Int) (c:Nat) (x:Qan) (a b s t:Nat):Prop where
 hl:ls[i]?=some l
 hx:(Qaf N.ar l)[c]?=some x
 ha:x.1[a]?=some (s:Int)
 hb:x.2[b]?=some (t:Int)
 hk:k=Qfi (Qae N.ar ls) (Qaf N.ar l) i c x a b
theorem ent_ex {N:Qam} {ls:List (List Int)} {k:Nat} (hk:k<Qbw (Qae N.ar ls)):∃ i l c x a b s t,Qfs N ls k i l c x a b s t:=by
 obtain ⟨i,h1,h2,h3⟩:=Qsh _ _ hk;rw [←List.map_take] at h2 h3;rw [List.length_map] at h1;have hi:i<ls.length:=by simpa [Qae] using h1
 obtain ⟨l,hl⟩:∃ l,ls[i]?=some l:=⟨_,Zg hi⟩;have e1:=Qdh (Qbu (ar:=N.ar) hl);unfold Qbw at e1;rw [e1] at h3;have h4:k-((List.take i (Qae N.ar ls)).map Qea).sum<Qea (Qaf N.ar l):=by omega
 obtain ⟨c,g1,g2,g3⟩:=Qsh _ _ h4;rw [←List.map_take] at g2 g3;rw [List.length_map] at g1;obtain ⟨x,hx⟩:∃ x,(Qaf N.ar l)[c]?=some x:=⟨_,Zg g1⟩;have e2:=Qdi hx;unfold Qea at e2;rw [e2] at g3;obtain ⟨a,b,s,t,e,f1,f2⟩:=Qpg hx (k:=k-((List.take i (Qae N.ar ls)).map Qea).sum-((List.take c (Qaf N.ar l)).map szG).sum) (by omega);exact ⟨i,l,c,x,a,b,s,t,hl,hx,f1,f2,by unfold Qfi Qbw Qea at *;omega⟩
theorem Qfs.lt {N:Qam} {ls:List (List Int)} {k i c a b s t:Nat} {l:List Int} {x:Qan} (h:Qfs N ls k i l c x a b s t):k<Qbw ((Qae N.ar ls).take i)+Qea ((Qaf N.ar l).take (c+1))∧k<Qbw ((Qae N.ar ls).take (i+1))∧k<Qbw (Qae N.ar ls)∧Qbw ((Qae N.ar ls).take i)+Qea ((Qaf N.ar l).take c)≤k:=by have ha:=(Zs h.ha).1;have hb:=(Zs h.hb).1;have h1:=Qra (gs:=Qae N.ar ls) (i:=i) h.hx ha hb;have h2:=Qjk (Qbu (ar:=N.ar) h.hl) h.hx ha hb;have h3:=Qgc (Qae N.ar ls) (i+1);rw [←h.hk] at h1 h2;exact ⟨h1,h2,by omega,by rw [h.hk];unfold Qfi;omega⟩
theorem Qfs.inj {N:Qam} {ls:List (List Int)} {k i c a b s t i' c' a' b' s' t':Nat} {l l':List Int} {x x':Qan} (h:Qfs N ls k i l c x a b s t) (g:Qfs N ls k i' l' c' x' a' b' s' t') :
 i=i'∧l=l'∧c=c'∧x=x'∧a=a'∧b=b'∧s=s'∧t=t':=by
 have h1:=h.lt;have g1:=g.lt
 have hi:i=i':=by
  rcases Nat.lt_trichotomy i i' with e|e|e
  {have:=Qig (Qae N.ar ls) (show i+1≤i' from e);omega};{exact e};{have:=Qig (Qae N.ar ls) (show i'+1≤i from e);omega}
 subst hi;have hl:l=l':=by have:=h.hl;rw [g.hl] at this;cases this;rfl
 subst hl
 have hc:c=c':=by
  rcases Nat.lt_trichotomy c c' with e|e|e
  {have:=Qih (Qaf N.ar l) (show c+1≤c' from e);omega};{exact e};{have:=Qih (Qaf N.ar l) (show c'+1≤c from e);omega}
 subst hc;have hx:x=x':=by have:=h.hx;rw [g.hx] at this;cases this;rfl
 subst hx;have hb:=(Zs h.hb).1;have hb':=(Zs g.hb).1;have e:a*x.2.length+b=a'*x.2.length+b':=by have e1:=h.hk;have e2:=g.hk;unfold Qfi at e1 e2;omega
 have hab:a=a':=by
  rcases Nat.lt_trichotomy a a' with e3|e3|e3
  {have:(a+1)*x.2.length≤a'*x.2.length:=Nat.mul_le_mul_right _ e3;rw [Nat.add_mul,Nat.one_mul] at this;omega};{exact e3};{have:(a'+1)*x.2.length≤a*x.2.length:=Nat.mul_le_mul_right _ e3;rw [Nat.add_mul,Nat.one_mul] at this;omega}
 subst hab;have hbb:b=b':=by omega
 subst hbb;have hs:=h.ha;rw [g.ha] at hs;have ht:=h.hb;rw [g.hb] at ht;have hs2:(s':Int)=s:=Yv hs;have ht2:(t':Int)=t:=Yv ht;exact ⟨rfl,rfl,rfl,rfl,rfl,rfl,by omega,by omega⟩
def EntV (N:Qam) (ls:List (List Int)) (k:Nat) (v:Int):Prop:=∃ i l c x a b s t,Qfs N ls k i l c x a b s t∧Qet N (Qbv l c) s t v
theorem EntV.uniq {N:Qam} {ls:List (List Int)} {k:Nat} {v v':Int} (h:EntV N ls k v) (g:EntV N ls k v'):v=v':=by obtain ⟨i,l,c,x,a,b,s,t,h1,h2⟩:=h;obtain ⟨i',l',c',x',a',b',s',t',g1,g2⟩:=g;obtain ⟨rfl,rfl,rfl,rfl,rfl,rfl,rfl,rfl⟩:=h1.inj g1;exact h2.uniq g2
def RowE (N:Qam) (ls:List (List Int)) (cl:List Int):Prop:=∀ (k:Nat) (v:Int),cl[k]?=some v→EntV N ls k v
theorem RowE.push {N:Qam} {ls:List (List Int)} {cl:List Int} {v:Int} (h:RowE N ls cl) (g:EntV N ls cl.length v):RowE N ls (cl ++[v]):=fun k u hk=>by
 rcases Nat.lt_trichotomy k cl.length with e|e|e
 {rw [Yc e] at hk;exact h k u hk};{subst e;rw [Yb (Zn _),Yy] at hk;cases hk;exact g};{rw [Yd (by simp;omega)] at hk;cases hk}
structure Qct (N:Qam) (ls:List (List Int)) (cl:List Int):Prop where
 len:cl.length=Qbw (Qae N.ar ls)
 row:RowE N ls cl
theorem Qct.uniq {N:Qam} {ls:List (List Int)} {cl cl':List Int} (h:Qct N ls cl) (g:Qct N ls cl'):cl=cl':=by
 refine List.ext_getElem? (fun k=>?_);rcases Nat.lt_or_ge k cl.length with e|e
 {(have e':k<cl'.length:=by rw [g.len,←h.len];exact e);rw [Zg e,Zg e',(h.row k _ (Zg e)).uniq (g.row k _ (Zg e'))]};{rw [Yd e,Yd (by rw [g.len,←h.len];exact e)]}
theorem Qgi.all {N:Qam} {ls:List (List Int)} {cl:List Int} (h:Qgi N ls ls.length 0 cl) (hl:cl.length=Qbw (Qae N.ar ls)):Qct N ls cl:=by refine ⟨hl,fun k v hk=>?_⟩;obtain ⟨i,l,c,x,a,b,s,t,he⟩:=ent_ex (k:=k) (by rw [←hl];exact (Zs hk).1);refine ⟨i,l,c,x,a,b,s,t,he,?_⟩;have h1:=h i l c x a b s t (.inl (Zs he.hl).1) he.hl he.hx he.ha he.hb;rw [←he.hk,Ya,hk] at h1;exact h1
theorem Qct.at_ {N:Qam} {ls:List (List Int)} {cl:List Int} (h:Qct N ls cl) {k i c a b s t:Nat} {l:List Int} {x:Qan} (he:Qfs N ls k i l c x a b s t):∃ v,cl[k]?=some v∧Qet N (Qbv l c) s t v:=by obtain ⟨v,hv⟩:∃ v,cl[k]?=some v:=⟨_,Zg (by rw [h.len];exact he.lt.2.2.1)⟩;obtain ⟨i',l',c',x',a',b',s',t',g1,g2⟩:=h.row k v hv;obtain ⟨rfl,rfl,rfl,rfl,rfl,rfl,rfl,rfl⟩:=he.inj g1;exact ⟨v,hv,g2⟩
def StW (N:Qam):Qbf:=fun a b d=>∃ y,N.ar[b]?=some y∧Qai N a b≠1152921504606846976∧y.2.2≠1152921504606846976∧d=Qai N a b+y.2.2
theorem StA.all {N:Qam}{mk:List Bool}{a b:Nat}{d:Int}(h:StA N mk a b d):StW N a b d:=by obtain ⟨y,h1,h2,h3,_,_,h4⟩:=h;exact ⟨y,h1,h2,h3,h4⟩
def Qej (ls:List (List Int)) (i:Nat) (v:Int) (av:List Int):Prop:=∃ l,ls[i]?=some l∧∀ x∈av,Qaa l v≠Qaa l x
noncomputable def Qtj (ls:List (List Int)) (v:Int) (av:List Int):Nat→Nat
 | 0=>0
 | n+1=>by classical exact if Qej ls n v av then n+1 else Qtj ls v av n
noncomputable def Qhh (ls:List (List Int)) (v:Int) (av:List Int):Nat:=Qtj ls v av ls.length
section
variable {ls:List (List Int)} {v:Int} {av:List Int}
theorem Qtk:∀ n j,Qtj ls v av n=j+1→Qej ls j v av
 | 0,j,h=>by unfold Qtj at h;omega
 | n+1,j,h=>by
  unfold Qtj at h;split at h
  {rename_i h1;(obtain rfl:n=j:=by omega);exact h1};{exact Qtk n j h}
theorem Qtl:∀ n j,j<n→Qej ls j v av→j+1≤Qtj ls v av n
 | 0,j,h,_=>by omega
 | n+1,j,h,h1=>by unfold Qtj;split;{omega};{rename_i h2;refine Qtl n j ?_ h1;by_cases e:j=n;{subst e;exact absurd h1 h2};{omega}}
theorem Qex {j:Nat}(h:Qhh ls v av=j+1):Qej ls j v av:=Qtk _ _ h
theorem Qnr {j:Nat}(h:Qej ls j v av):j+1≤Qhh ls v av:=by obtain ⟨l,hl,h1⟩:=id h;exact Qtl _ _ (Zs hl).1 ⟨l,hl,h1⟩
end
theorem Qod {n:Nat} {ls:List (List Int)} (hP:Qat n ls) {i:Nat} {l:List Int} (hi:ls[i]?=some l) {u v:Nat} (hu:u<n) (hv:v<n) (h:Qaa l (u:Int)=Qaa l (v:Int)):∀ (k:Nat) (l':List Int),ls[i+k]?=some l'→Qaa l' (u:Int)=Qaa l' (v:Int)
 | 0,l',hl=>by
  rw [Nat.add_zero,hi] at hl;cases hl;exact h
 | k+1,l',hl=>by
  obtain ⟨m,hm⟩:∃ m,ls[i+k]?=some m:=⟨_,Zg (by have:=(Zs hl).1;omega)⟩;have ih:=Qod hP hi hu hv h k m hm;apply Classical.byContradiction;intro hne;exact Qfu (hP.nest (i+k) m l' hm hl) (hP.lvl l' (Zm hl)).len (hP.lvl m (Zm hm)).len hu hv hne ih
def HSt (N:Qam) (ls:List (List Int)) (av:List Int):Qbf:=fun a b d =>
 (Qhh ls (toV N a) av=0∧StW N a b d) ∨
 ∃ j l y z v,Qhh ls (toV N a) av=j+1∧ls[j]?=some l∧N.ar[a]?=some y∧N.ar[b]?=some z∧Qaa l y.1≠Qaa l y.2.1∧Qaa l z.1=Qaa l y.2.1∧Qaa l z.2.1≠Qaa l y.2.1∧z.2.2≠1152921504606846976∧Qet N (Qbv l (Qaa l y.2.1)) a b v∧v≠1152921504606846976∧d=v+z.2.2
section
variable {N:Qam} {ls:List (List Int)} {av:List Int} {s t:Nat}
theorem StW.ends {a b:Nat}{d:Int}(h:StW N a b d):∃ x y,N.ar[a]?=some x∧N.ar[b]?=some y∧x.2.1=y.1∧Qai N a b≠1152921504606846976∧y.2.2≠1152921504606846976∧d=Qai N a b+y.2.2:=by obtain ⟨y,hy,h1,h2,h3⟩:=h;obtain ⟨x,y',hx,hy',e⟩:=Qbm h1;rw [hy] at hy';cases hy';exact ⟨x,y,hx,hy,e,h1,h2,h3⟩
theorem HSt.up {a b:Nat}{d:Int}(h:HSt N ls av a b d):Rch (StW N) a b d:=by
 rcases h with ⟨_,h⟩|⟨j,l,y,z,v,_,_,_,hz,_,_,_,h7,h8,h9,rfl⟩
 {have:=Rch.start.step h;rwa [Int.zero_add] at this};{(rcases h8 with ⟨⟨p,c,e,g1,g2,rfl⟩,_⟩|⟨g,_⟩);{have:=(g1.mono (fun _ _ _ h=>h.all)).step (show StW N p b (e+z.2.2) from ⟨z,hz,g2.1,h7,by rw [g2.2]⟩);rwa [←Int.add_assoc] at this};{exact absurd g h9}}
theorem Qyv {p:Nat}{c:Int} (h:Rch (HSt N ls av) s p c):Rch (StW N) s p c:=by
 induction h with
 | start=>exact .start
 | step _ h2 ih=>exact ih.trans h2.up
theorem Qda (hok:Qap N){a:Nat}{x:Tri} (h:N.ar[a]?=some x):∃ u v:Nat,x.1=(u:Int)∧x.2.1=(v:Int)∧u<N.vs.length∧v<N.vs.length:=by have o:=hok.arcs x (Zm h);have a0:=o.f0;have a1:=o.f1;have b0:=o.g0;have b1:=o.g1;exact ⟨x.1.toNat,x.2.1.toNat,by omega,by omega,by omega,by omega⟩
def Qvz (N:Qam) (ls:List (List Int)) (av:List Int) (a:Nat):Prop:=∀ j l y,Qhh ls (toV N a) av=j+1→ls[j]?=some l→N.ar[a]?=some y→Qaa l y.1≠Qaa l y.2.1
theorem Qmk (hs:toV N s∈av):Qvz N ls av s:=fun j l y h hl hy=>by obtain ⟨l',hl',h1⟩:=Qex h;exact absurd rfl (h1 _ hs)
theorem Qph {a b:Nat}{x y:Tri} (hx:N.ar[a]?=some x) (hy:N.ar[b]?=some y) (e:x.2.1=y.1) (h0:Qhh ls (toV N a) av=0):Qvz N ls av b:=fun j l y' h hl hy' hc=>by rw [hy] at hy';cases hy';obtain ⟨l',hl',h1⟩:=Qex h;rw [hl] at hl';cases hl';rw [(Qby hy).1] at h1;have:=Qnr (ls:=ls) (v:=toV N a) (av:=av) (j:=j) ⟨l,hl,fun v hv=>by rw [(Qby hx).1,e,hc];exact h1 v hv⟩;omega
theorem Qpi (hok:Qap N)(hP:Qat N.vs.length ls){a b i:Nat}{l:List Int}{y z:Tri} (hy:N.ar[a]?=some y) (hz:N.ar[b]?=some z) (hi:Qhh ls (toV N a) av=i+1) (hl:ls[i]?=some l)
 (h1:Qaa l z.1=Qaa l y.2.1) (h2:Qaa l z.2.1≠Qaa l y.2.1):Qvz N ls av b:=fun j l' z' hj hl' hz' hc=>by
 rw [hz] at hz';cases hz';obtain ⟨l'',hl'',g1⟩:=Qex hj;rw [hl'] at hl'';cases hl'';rw [(Qby hz).1] at g1;obtain ⟨u,v,e1,e2,hu,hv⟩:=Qda hok hz;obtain ⟨_,v',_,e3,_,hv'⟩:=Qda hok hy;rw [e1,e2] at hc;rw [e2] at g1;rw [e1,e3] at h1;rw [e2,e3] at h2;rcases Nat.lt_or_ge i j with hij|hij
 {have e4:=Qod hP hl hu hv' h1 (j-i) l' (by rw [show i+(j-i)=j by omega];exact hl');have:=Qnr (ls:=ls) (v:=toV N a) (av:=av) (j:=j) ⟨l',hl',fun v hv=>by rw [(Qby hy).1,e3,←e4,hc];exact g1 v hv⟩;omega};{have e4:=Qod hP hl' hu hv hc (i-j) l (by rw [show j+(i-j)=i by omega];exact hl);exact h2 (by rw [←e4];exact h1)}
theorem ent_le (hok:Qap N){mk:List Bool}{a p q:Nat}{c e v:Int} (hr:Rch (StA N mk) a p c) (ho:OuA N p q e) (hv:Qet N mk a q v):v≤c+e∧v≠1152921504606846976:=by
 rcases hv with ⟨⟨p',c1,e',k1,k2,rfl⟩,k3⟩|⟨_,k3⟩
 {refine ⟨k3 _ ⟨p,c,e,hr,ho,rfl⟩,?_⟩;obtain ⟨c2,h10,h11⟩:=Qhm hok p' c1 k1;have b2:=OuA.bd hok k2;have:=k3 _ ⟨p',c2,e',h10,k2,rfl⟩;unfold MB at h11;omega};{exact absurd ⟨p,c,e,hr,ho,rfl⟩ (k3 _)}
theorem Qps (hok:Qap N)(hP:Qat N.vs.length ls) (hE:∀ (j:Nat) (l:List Int) (a b:Nat) (y z:Tri),ls[j]?=some l→N.ar[a]?=some y→N.ar[b]?=some z→Qaa l y.1≠Qaa l y.2.1→Qaa l z.1=Qaa l y.2.1→Qaa l z.2.1≠Qaa l y.2.1→∃ v,Qet N (Qbv l (Qaa l y.2.1)) a b v)
 {p:Nat} {c:Int} (h:Rch (StW N) s p c) (hs:∃ x,N.ar[s]?=some x) (hav:toV N s∈av):∃ a c1 c2,Rch (HSt N ls av) s a c1∧Qvz N ls av a∧c1+c2≤c ∧
  ((Qhh ls (toV N a) av=0∧p=a∧c2=0)∨∃ j l y,Qhh ls (toV N a) av=j+1∧ls[j]?=some l∧N.ar[a]?=some y∧Rch (StA N (Qbv l (Qaa l y.2.1))) a p c2):=by
 -- an arc that the search comes to, whatever its level
 have fresh:∀ (q:Nat) (e:Int),Rch (HSt N ls av) s q e→Qvz N ls av q→(∃ x,N.ar[q]?=some x)→∀ f,e≤f→∃ a c1 c2,Rch (HSt N ls av) s a c1∧Qvz N ls av a∧c1+c2≤f ∧
  ((Qhh ls (toV N a) av=0∧q=a∧c2=0)∨∃ j l y,Qhh ls (toV N a) av=j+1∧ls[j]?=some l∧N.ar[a]?=some y∧Rch (StA N (Qbv l (Qaa l y.2.1))) a q c2):=by
  intro q e hq hg ⟨x,hx⟩ f hf;refine ⟨q,e,0,hq,hg,by omega,?_⟩
  cases hlv:Qhh ls (toV N q) av with
  | zero=>exact .inl ⟨rfl,rfl,rfl⟩
  | succ j =>
   obtain ⟨l,hl,_⟩:=Qex hlv;exact .inr ⟨j,l,x,rfl,hl,hx,.start⟩
 induction h with
 | start=>exact fresh s 0 .start (Qmk hav) hs 0 (Int.le_refl _)
 | @step p q c d h1 h2 ih =>
  obtain ⟨a,c1,c2,g1,g2,g3,g4⟩:=ih;obtain ⟨x,w,hx,hw,e,k1,k2,rfl⟩:=h2.ends;rcases g4 with ⟨h0,rfl,rfl⟩|⟨j,l,y,hj,hl,hy,hr⟩
  {exact fresh q (c1+(Qai N p q+w.2.2)) (g1.step (.inl ⟨h0,h2⟩)) (Qph hx hw e h0) ⟨w,hw⟩ _ (by omega)}
  · have hlen:=(hP.lvl l (Zm hl)).len
    -- where p ends: within the cell
    have hpc:Qaa l x.2.1=Qaa l y.2.1:=by
     cases hr with
     | start =>rw [hx] at hy;cases hy;rfl
     | step _ h4 =>obtain ⟨_,x',_,hx',_,_,_,_,h5,_⟩:=(Qca hok hlen).1 h4;rw [hx] at hx';cases hx';exact h5
    by_cases hin:Qaa l w.2.1=Qaa l y.2.1;{refine ⟨a,c1,c2+(Qai N p q+w.2.2),g1,g2,by omega,.inr ⟨j,l,y,hj,hl,hy,hr.step ((Qca hok hlen).2 ⟨x,w,hx,hw,e,k1,k2,?_,hin,rfl⟩)⟩⟩;rw [←e];exact hpc};{(have hfr:Qaa l w.1=Qaa l y.2.1:=by rw [←e];exact hpc);have hen:=g2 j l y hj hl hy;obtain ⟨v,hv⟩:=hE j l a q y w hl hy hw hen hfr hin;obtain ⟨hle,hne⟩:=ent_le hok hr ⟨k1,rfl⟩ hv;exact fresh q (c1+(v+w.2.2)) (g1.step (.inr ⟨j,l,y,w,v,hj,hl,hy,hw,hen,hfr,hin,k2,hv,hne,rfl⟩)) (Qpi hok hP hy hw hj hl hfr hin) ⟨w,hw⟩ _ (by omega)}
theorem Qvb (hok:Qap N)(hP:Qat N.vs.length ls) (hE:∀ (j:Nat) (l:List Int) (a b:Nat) (y z:Tri),ls[j]?=some l→N.ar[a]?=some y→N.ar[b]?=some z→Qaa l y.1≠Qaa l y.2.1→Qaa l z.1=Qaa l y.2.1→Qaa l z.2.1≠Qaa l y.2.1→∃ v,Qet N (Qbv l (Qaa l y.2.1)) a b v)
 (hs:∃ x,N.ar[s]?=some x) (hav:toV N s∈av) (hat:frV N t∈av) {v:Int} (h:Lst (Rch (HSt N ls av) s t) v):Lst (Rch (StW N) s t) v:=by
 refine h.conv (fun c hc=>⟨c,Qyv hc,Int.le_refl _⟩) (fun c hc=>?_);obtain ⟨a,c1,c2,g1,g2,g3,g4⟩:=Qps hok hP hE hc hs hav;rcases g4 with ⟨_,rfl,rfl⟩|⟨j,l,y,hj,hl,hy,hr⟩
 {exact ⟨c1,g1,by omega⟩}
 · have hlen:=(hP.lvl l (Zm hl)).len
   cases hr with
   | start=>exact ⟨c1,g1,by omega⟩
   | step _ h4 =>obtain ⟨_,w,_,hw,_,_,_,h5,_,_⟩:=(Qca hok hlen).1 h4;obtain ⟨l',hl',h6⟩:=Qex hj;rw [hl] at hl';cases hl';have h6:=h6 _ hat;rw [(Qby hy).1,(Qby hw).2.1] at h6;exact absurd h5.symm h6
end
structure NxO (N:Qam) (St:Qbf) (OS:Nat→Int→Int→Prop) (a:Nat) (os cs:List Int):Prop where
 len:cs.length=os.length
 to_:∀ (k:Nat) (o p:Int),os[k]?=some o→cs[k]?=some p→∃ (b:Nat) (y:Tri),o=(b:Int)∧N.ar[b]?=some y∧0≤p∧p≤1152921504606846976∧∀ d,OS b p d→St a b d
 all:∀ (b:Nat) (d:Int),St a b d→∃ (k:Nat) (p:Int),os[k]?=some (b:Int)∧cs[k]?=some p∧OS b p d
structure Qwe (St:Qbf) (s to na:Nat) (v:Int):Prop where
 st:∀ p q d,St p q d→0≤d∧d≤80000000000000∧q<na
 sn:s<na
 rc:Rch St s to v
 lo:∀ e,Rch St s to e→v≤e
 vb:v≤70375186628608
def GoneO (OS:Nat→Int→Int→Prop)(os cs:List Int)(i:Nat):Nat→Int→Prop:=fun r d=>∃ (j:Nat) (p:Int),j<i∧os[j]?=some (r:Int)∧cs[j]?=some p∧OS r p d
structure OpI (St:Qbf) (s to na:Nat) (dnf hp:Nat→Option Int) (dl:List Int) (R:Int) (bf:List Int):Prop where
 dij:Dij St s dnf hp
 via:ViI St s bf dnf hp
 fl:∀ q,q<na→(dl.getD q 0=R↔dnf q≠none)
 bd:∀ q e,hp q=some e→q<na∧0≤e∧e≤200000000000000
 ld:dl.length=na
 lb:bf.length=na
 nt:dnf to=none
structure OpJ (St:Qbf) (OS:Nat→Int→Int→Prop) (s to na p:Nat) (c:Int) (os cs:List Int) (i:Nat) (dnf hp:Nat→Option Int) (dl:List Int) (R:Int) (bf:List Int):Prop where
 dij:Qlz St s dnf hp p c (GoneO OS os cs i)
 via:ViI St s bf dnf hp
 fl:∀ q,q<na→(dl.getD q 0=R↔dnf q≠none)
 bd:∀ q e,hp q=some e→q<na∧0≤e∧e≤200000000000000
 ld:dl.length=na
 lb:bf.length=na
 nt:dnf to=none
 c0:0≤c∧c≤70375186628608
section
variable {N:Qam} {St:Qbf} {OS:Nat→Int→Int→Prop} {s to na p:Nat} {v c:Int} {os cs:List Int} {i:Nat} {dnf hp:Nat→Option Int} {dl:List Int} {R:Int} {bf:List Int}
theorem Qlz.convO {G G':Nat→Int→Prop}(h:Qlz St s dnf hp p c G)(hg:∀ r d,G' r d→G r d):Qlz St s dnf hp p c G' :=
 ⟨h.dr,h.dm,h.hr,h.off,fun q e r d h1 h2=>(h.on q e r d h1 h2).imp (fun h3=>⟨h3.1,fun h4=>h3.2 (hg r d h4)⟩) id,h.st,h.at_⟩
theorem Qwe.pos (h:Qwe St s to na v)(a b:Nat)(d:Int)(g:St a b d):0≤d:=(h.st a b d g).1
theorem OpI.init (hk:Qwe St s to na v)(hd:dl.length=na)(hb:bf.length=na)(hR:∀ q,q<na→dl.getD q 0≠R):OpI St s to na (fun _=>none) (Qfg (fun _=>none) s 0) dl R bf:=by
 have h1:∀ q,Qfg (fun _=>none) s 0 q=if q=s then some 0 else none:=fun q=>by{unfold Qfg;by_cases e:q=s <;> simp [e]}
 refine ⟨Dij.init St s h1,ViI.init h1,fun q hq=>⟨fun e=>absurd e (hR q hq),fun e=>absurd rfl e⟩,fun q e h=>?_,hd,hb,rfl⟩;rw [h1] at h;split at h
 {rename_i h2;subst h2;cases h;exact ⟨hk.sn,by omega,by omega⟩};{cases h}
theorem OpI.waits (h:OpI St s to na dnf hp dl R bf)(hk:Qwe St s to na v):∃ q e,hp q=some e∧e≤v:=by
 rcases h.dij.wait hk.pos hk.rc with ⟨e,h1,_⟩|h1
 {rw [h.nt] at h1;cases h1};{exact h1}
theorem OpI.le (h:OpI St s to na dnf hp dl R bf)(hk:Qwe St s to na v)(hp1:hp p=some c)(hm:∀ q e,hp q=some e→c≤e):0≤c∧c≤v:=by obtain ⟨q,e,h1,h2⟩:=h.waits hk;have:=hm q e h1;exact ⟨(h.bd p c hp1).2.1,by omega⟩
theorem OpI.hit (h:OpI St s to na dnf hp dl R bf)(hk:Qwe St s to na v)(hp1:hp to=some c)(hm:∀ q e,hp q=some e→c≤e):∃ bs cs,Vi St s bf dnf to v bs cs:=by obtain rfl:c=v:=by{have h1:=(h.le hk hp1 hm).2;have h2:=hk.lo c (h.dij.hr to c hp1);omega};exact h.via.wait to c hp1
theorem OpI.free (h:OpI St s to na dnf hp dl R bf)(hp1:hp p=some c):dnf p=none∧p<na∧dl.getD p 0≠R:=by
 have hno:dnf p=none:=by
  cases hd:dnf p with
  | none=>rfl
  | some e=>have:=h.dij.off p e hd;rw [hp1] at this;cases this
 have hpn:=(h.bd p c hp1).1;exact ⟨hno,hpn,fun e=>(h.fl p hpn).1 e hno⟩
theorem OpI.take (h:OpI St s to na dnf hp dl R bf)(hk:Qwe St s to na v)(hp1:hp p=some c)(hm:∀ q e,hp q=some e→c≤e)(hpt:p≠to) :
 OpJ St OS s to na p c os cs 0 (fun q=>if q=p then some c else dnf q) (fun q=>if q=p then none else hp q) (dl.set p R) R bf:=by
 obtain ⟨hno,hpn,hdn⟩:=h.free hp1;have hpl:p<dl.length:=by rw [h.ld];exact hpn
 have hle:=h.le hk hp1 hm;have hvb:=hk.vb;refine ⟨(h.dij.take hk.pos hp1 hm).convO (fun r d ⟨j,_,hj,_⟩=>by omega),h.via.take hp1 hno,fun q hq=>?_,fun q e hq=>?_,by rw [Yq];exact h.ld,h.lb,?_,by omega⟩;{by_cases e:q=p;{subst e;simp [hpl]};{(have e':¬p=q:=fun x=>e x.symm);exact Kcu}};{by_cases e1:q=p;{rw [if_pos e1] at hq;cases hq};{rw [if_neg e1] at hq;exact h.bd q e hq}};{simp only [if_neg (fun e:to=p=>hpt e.symm)];exact h.nt}
theorem Qmi {b:Nat}{x d0:Int} (hb:os[i]?=some (b:Int)) (hv:cs[i]?=some x) (hf:∀ d,OS b x d→d=d0) (r:Nat) (d:Int) (h:GoneO OS os cs (i+1) r d):GoneO OS os cs i r d∨(r=b∧d=d0):=by obtain ⟨j,p',hj,h1,h2,h3⟩:=h;by_cases e:j=i;{subst e;rw [hb] at h1;have e1:=Int.ofNat.inj (Yv h1);subst e1;rw [hv] at h2;cases h2;exact .inr ⟨rfl,hf d h3⟩};{exact .inl ⟨j,p',by omega,h1,h2,h3⟩}
theorem OpJ.skip (h:OpJ St OS s to na p c os cs i dnf hp dl R bf){b:Nat}{x:Int} (hb:os[i]?=some (b:Int)) (hv:cs[i]?=some x) (hno:∀ d,¬OS b x d):OpJ St OS s to na p c os cs (i+1) dnf hp dl R bf :=
 ⟨h.dij.convO (fun r d ⟨j,p',hj,h1,h2,h3⟩=>by
  by_cases e:j=i
  · subst e
    rw [hb] at h1;have e1:=Int.ofNat.inj (Yv h1);subst e1;rw [hv] at h2
    cases h2
    exact absurd h3 (hno d)
  · exact ⟨j,p',by omega,h1,h2,h3⟩),h.via,h.fl,h.bd,h.ld,h.lb,h.nt,h.c0⟩
theorem OpJ.off (h:OpJ St OS s to na p c os cs i dnf hp dl R bf){b:Nat}{x d0:Int} (hb:os[i]?=some (b:Int)) (hv:cs[i]?=some x) (hf:∀ d,OS b x d→d=d0) (hst:St p b d0) (hbn:b<na) (hd:dl.getD b 0=R):OpJ St OS s to na p c os cs (i+1) dnf hp dl R bf :=
 ⟨(h.dij.put hst (.inl ⟨(h.fl b hbn).1 hd,fun e he=>h.dij.dm b e he _ ((h.dij.dr p c h.dij.at_).step hst),rfl⟩)).convO (Qmi hb hv hf),h.via,h.fl,h.bd,h.ld,h.lb,h.nt,h.c0⟩
theorem OpJ.put (hk:Qwe St s to na v)(h:OpJ St OS s to na p c os cs i dnf hp dl R bf){b:Nat}{x d0:Int} (hb:os[i]?=some (b:Int)) (hv:cs[i]?=some x) (hf:∀ d,OS b x d→d=d0) (hst:St p b d0) (hd:dl.getD b 0≠R) :
 OpJ St OS s to na p c os cs (i+1) dnf (Qfg hp b (c+d0)) dl R (if Qlv hp b (c+d0) then bf.set b (p:Int) else bf):=by
 have hsb:=hk.st p b d0 hst;have hbn:=hsb.2.2
 have hdn:dnf b=none:=by
  cases e:dnf b with
  | none=>rfl
  | some x=>exact absurd ((h.fl b hbn).2 (by rw [e];exact fun h=>by cases h)) hd
 obtain ⟨x,hx⟩:=Zx (c+d0);rw [←hx];have hne:∀ r,r≠b→Qfg hp b x r=hp r:=fun r hr=>by unfold Qfg;rw [if_neg hr]
 have hat0:hp b=none→Qfg hp b x b=some x:=fun e=>by unfold Qfg;rw [if_pos rfl,e]
 have hat1:∀ z,hp b=some z→Qfg hp b x b=some (if z≤x then z else x):=fun z e=>by unfold Qfg;rw [if_pos rfl,e]
 have hc0:=h.c0
 have hbd:∀ q e,Qfg hp b x q=some e→q<na∧0≤e∧e≤200000000000000:=fun q e hq=>by
  by_cases e1:q=b
  · subst e1
    cases e2:hp q with
    | none=>rw [hat0 e2] at hq;cases hq;exact ⟨hbn,by omega,by omega⟩
    | some z =>rw [hat1 z e2] at hq;simp only [Option.some.injEq] at hq;have:=h.bd q z e2;split at hq <;> exact ⟨hbn,by omega,by omega⟩
  {rw [hne q e1] at hq;exact h.bd q e hq}
 -- the first that is as good
 have hfi:∀ (z:Option Int),hp b=z→(∀ y,z=some y→x<y)→∀ (r:Nat) (e d':Int),dnf r=some e→r≠p→St r b d'→x<e+d':=fun z hz hlt r e d' hr hrp hs=>by
  rcases h.dij.on r e b d' hr hs with ⟨g,_⟩|⟨f,g,_⟩|⟨f,g,g2⟩
  {exact absurd g hrp};{rw [hdn] at g;cases g};{rw [hz] at g;have:=hlt f g;omega}
 refine ⟨(h.dij.put hst (.inr ⟨hdn,hne,?_⟩)).convO (Qmi hb hv hf),?_,h.fl,hbd,h.ld,by split <;> simp [h.lb],h.nt,h.c0⟩
 · cases e2:hp b with
   | none=>exact .inr ⟨fun e h=>(by cases h),by rw [hat0 e2,hx]⟩
   | some z =>by_cases e3:z≤x;{exact .inl ⟨z,rfl,by omega,by rw [hat1 z e2,if_pos e3]⟩};{exact .inr ⟨fun e h=>by cases h;omega,by rw [hat1 z e2,if_neg e3,hx]⟩}
 · cases e2:hp b with
   | none =>rw [show Qlv hp b x=true by unfold Qlv;rw [e2],if_pos rfl];exact h.via.put h.dij.at_ hdn (by rw [h.lb];exact hbn) hst hne (by rw [hat0 e2,hx]) (by rw [←hx];exact hfi none e2 (fun y hy=>by cases hy))
   | some z =>by_cases e3:z≤x;{rw [show Qlv hp b x=false by unfold Qlv;rw [e2];simp [e3]];exact Kch};{rw [show Qlv hp b x=true by unfold Qlv;rw [e2];simp [e3],if_pos rfl];exact h.via.put h.dij.at_ hdn (by rw [h.lb];exact hbn) hst hne (by rw [hat1 z e2,if_neg e3,hx]) (by rw [←hx];exact hfi (some z) e2 (fun y hy=>by cases hy;omega))}
theorem OpJ.all (h:OpJ St OS s to na p c os cs i dnf hp dl R bf)(hn:NxO N St OS p os cs)(hi:os.length≤i):OpI St s to na dnf hp dl R bf :=
 ⟨h.dij.done (fun q d hq=>by
  obtain ⟨k,x,h1,h2,h3⟩:=hn.all q d hq;exact ⟨k,x,by have:=(Zs h1).1;omega,h1,h2,h3⟩),h.via,h.fl,h.bd,h.ld,h.lb,h.nt⟩
end
def OpS (N:Qam)(l:List Int)(c:Int)(to b:Nat)(p d:Int):Prop:=∃ y,N.ar[b]?=some y∧p≠1152921504606846976∧((b=to∧d=p)∨(b≠to∧Qaa l y.1=c∧Qaa l y.2.1=c∧y.2.2≠1152921504606846976∧d=p+y.2.2))
def StQ (N:Qam)(l:List Int)(c:Int)(to:Nat)(Pr:Nat→Nat→Int→Prop):Qbf:=fun a b d=>a≠to∧∃ p,Pr a b p∧OpS N l c to b p d
def PrT (N:Qam)(a b:Nat)(p:Int):Prop:=p=Qai N a b
structure Qgz (N:Qam) (l:List Int) (c:Int) (s to:Nat) (v:Int):Prop where
 sy:∃ y,N.ar[s]?=some y∧Qaa l y.1≠c∧Qaa l y.2.1=c
 tz:∃ z,N.ar[to]?=some z∧Qaa l z.1=c∧Qaa l z.2.1≠c
 ent:Qet N (Qbv l c) s to v
 fin:v≠1152921504606846976
section
variable {N:Qam} {l lb:List Int} {c:Int} {s to a b p:Nat} {v d e:Int}
theorem Qgz.ne (h:Qgz N l c s to v):s≠to:=fun e=>by obtain ⟨y,hy,h1,h2⟩:=h.sy;obtain ⟨z,hz,g1,g2⟩:=h.tz;subst e;rw [hy] at hz;cases hz;exact g2 h2
theorem Qgz.in_ne (h:Qgz N l c s to v){y:Tri} (hy:N.ar[a]?=some y) (hc:Qaa l y.2.1=c):a≠to:=fun e=>by obtain ⟨z,hz,g1,g2⟩:=h.tz;subst e;rw [hy] at hz;cases hz;exact g2 hc
theorem Qgz.bd (hok:Qap N)(h:Qgz N l c s to v):0≤v∧v≤70375186628608:=(h.ent.bd hok).resolve_left h.fin
theorem Qgz.out (h:Qgz N l c s to v):Qok (StA N (Qbv l c)) (OuA N) s to v∧∀ e,Qok (StA N (Qbv l c)) (OuA N) s to e→v≤e:=by
 rcases h.ent with h1|⟨h1,_⟩
 {exact h1};{exact absurd h1 h.fin}
theorem OpS.fn {d':Int}(h:OpS N l c to b v d)(g:OpS N l c to b v d'):d=d':=by
 obtain ⟨y,hy,_,h1⟩:=h;obtain ⟨z,hz,_,h2⟩:=g;rw [hy] at hz;cases hz;rcases h1 with ⟨e,h1⟩|⟨e,_,_,_,h1⟩ <;> rcases h2 with ⟨e',h2⟩|⟨e',_,_,_,h2⟩
 {rw [h1,h2]};{exact absurd e e'};{exact absurd e' e};{rw [h1,h2]}
theorem OpS.bd (hok:Qap N)(h:OpS N l c to b v d)(h0:0≤v∧v≤70375186628608):0≤d∧d≤80000000000000∧b<N.ar.length:=by
 obtain ⟨y,hy,_,h1⟩:=h;have hb:=(Zs hy).1;rcases h1 with ⟨e,h1⟩|⟨e,_,_,h2,h1⟩
 {exact ⟨by omega,by omega,hb⟩};{have:=(Qdk (hok.arcs y (Zm hy)).w).resolve_left h2;exact ⟨by omega,by omega,hb⟩}
/-! Level 1: from arc to arc. -/
theorem stO_fwd (hok:Qap N)(hl:l.length=N.vs.length)(hh:Qgz N l c s to v) (h:Rch (StQ N l c to (PrT N)) s p e):(p≠to→Rch (StA N (Qbv l c)) s p e∧∃ y,N.ar[p]?=some y∧Qaa l y.2.1=c)∧(p=to→Qok (StA N (Qbv l c)) (OuA N) s to e):=by
 induction h with
 | start =>obtain ⟨y,hy,_,h2⟩:=hh.sy;exact ⟨fun _=>⟨.start,y,hy,h2⟩,fun e=>absurd e hh.ne⟩
 | @step p q e d h1 h2 ih =>
  obtain ⟨hp,pr,rfl,y,hy,hfin,hst⟩:=h2;obtain ⟨ih1,x,hx,hxc⟩:=ih.1 hp;obtain ⟨x',y',hx',hy',em⟩:=Qbm hfin;rw [hx] at hx';cases hx';rw [hy] at hy';cases hy';rcases hst with ⟨rfl,rfl⟩|⟨hq,h3,h4,h5,rfl⟩
  {exact ⟨fun e=>absurd rfl e,fun _=>⟨p,e,Qai N p q,ih1,⟨hfin,rfl⟩,rfl⟩⟩};{exact ⟨fun _=>⟨ih1.step ((Qca hok hl).2 ⟨x,y,hx,hy,em,hfin,h5,h3,h4,rfl⟩),y,hy,h4⟩,fun e=>absurd e hq⟩}
theorem stA_o (hok:Qap N)(hl:l.length=N.vs.length)(hh:Qgz N l c s to v)(hp:p≠to) (h:StA N (Qbv l c) p b d):StQ N l c to (PrT N) p b d∧b≠to:=by obtain ⟨x,y,hx,hy,e1,h1,h2,h3,h4,rfl⟩:=(Qca hok hl).1 h;have hb:=hh.in_ne hy h4;exact ⟨⟨hp,_,rfl,y,hy,h1,.inr ⟨hb,h3,h4,h2,rfl⟩⟩,hb⟩
theorem stO_bwd (hok:Qap N)(hl:l.length=N.vs.length)(hh:Qgz N l c s to v) (h:Rch (StA N (Qbv l c)) s p e):Rch (StQ N l c to (PrT N)) s p e∧p≠to:=by
 induction h with
 | start=>exact ⟨.start,hh.ne⟩
 | step _ h2 ih =>have:=stA_o hok hl hh ih.2 h2;exact ⟨ih.1.step this.1,this.2⟩
theorem Qgz.ok0 (hok:Qap N)(hl:l.length=N.vs.length)(hh:Qgz N l c s to v):Qwe (StQ N l c to (PrT N)) s to N.ar.length v:=by obtain ⟨y,hy,_,_⟩:=hh.sy;obtain ⟨z,hz,_,_⟩:=hh.tz;refine ⟨fun p q d h=>?_,(Zs hy).1,?_,fun e h=>hh.out.2 e ((stO_fwd hok hl hh h).2 rfl),(hh.bd hok).2⟩;{obtain ⟨_,pr,rfl,ho⟩:=h;(have hf:Qai N p q≠1152921504606846976:=by obtain ⟨_,_,h,_⟩:=ho;exact h);have:=(Qcb hok p q).resolve_left hf;exact ho.bd hok (by omega)};{obtain ⟨p,c1,d,h1,⟨h2,rfl⟩,rfl⟩:=hh.out.1;obtain ⟨g1,g2⟩:=stO_bwd hok hl hh h1;exact g1.step ⟨g2,_,rfl,z,hz,h2,.inl ⟨rfl,rfl⟩⟩}
theorem nxO_flat (hok:Qap N){x:Tri} (hx:N.ar[a]?=some x) (ha:a≠to):NxO N (StQ N l c to (PrT N)) (OpS N l c to) a (idx (·.1) N.ar x.2.1) ((idx (·.1) N.ar x.2.1).map (fun b=>Qai N a b.toNat)):=by refine ⟨by simp,fun k o v ho hv=>?_,fun b d hd=>?_⟩;{obtain ⟨b,y,rfl,hy,hf⟩:=Qdz.1 (Zm ho);(rw [Yt,ho] at hv;have hv':Qai N a b=v:=by simpa using hv);subst hv';have hb:=Qcb hok a b;exact ⟨b,y,rfl,hy,by omega,by omega,fun d hd=>⟨ha,_,rfl,hd⟩⟩};{obtain ⟨_,pr,rfl,ho⟩:=hd;obtain ⟨y,hy,hf,_⟩:=id ho;obtain ⟨x',y',hx',hy',e⟩:=Qbm hf;rw [hx] at hx';cases hx';rw [hy] at hy';cases hy';obtain ⟨k,hk⟩:=Yr (Qdz.2 ⟨b,y,rfl,hy,e.symm⟩:(b:Int)∈idx (·.1) N.ar x.2.1);exact ⟨k,Qai N a b,hk,by rw [Yt,hk];simp,ho⟩}
end
/-! Above level 1: by entries of kids. -/
structure Qqn (N:Qam) (l lb:List Int) (c:Nat) (x:Qan):Prop where
 ok:Qap N
 hl:l.length=N.vs.length
 hb:lb.length=N.vs.length
 hn:Qdr lb l
 hx:(Qaf N.ar l)[c]?=some x
 hE:∀ (a m:Nat) (y z:Tri),N.ar[a]?=some y→N.ar[m]?=some z→Qaa lb y.1≠Qaa lb y.2.1→Qaa lb z.1=Qaa lb y.2.1→Qaa lb z.2.1≠Qaa lb y.2.1→∃ v,Qet N (Qbv lb (Qaa lb y.2.1)) a m v
section
variable {N:Qam} {l lb:List Int} {c:Nat} {x:Qan} {s to a b p:Nat} {v d e:Int}
theorem Qqn.nest (h:Qqn N l lb c x){k:Nat} (hk:(k:Int)∈x.2):Qiw (StA N (Qbv l c)) (fun a t d=>OuA N a t d∧t=k) (StK N l lb c) (fun a m v=>∃ y,N.ar[a]?=some y∧Qet N (Qbv lb (Qaa lb y.2.1)) a m v) (fun a m d=>StC N lb x a m d∧Qci N l lb c a∧Qci N l lb c m) (fun a t d=>OuC N lb x a t d∧Qci N l lb c a∧t=k) (Qci N l lb c) (wV N) (OuA N) :=
 Qyj h.ok h.hl h.hb h.hn h.hx (fun a m y z ⟨y',hy',h1,_⟩ hy hz h2 h3=>by
  rw [hy] at hy'
  cases hy'
  exact h.hE a m y z hy hz h1 h2 h3) hk
theorem Qqn.to_in (h:Qqn N l lb c x)(hh:Qgz N l c s to v):(to:Int)∈x.2:=(Qbr h.hx).2 hh.tz
theorem Qqn.start (h:Qqn N l lb c x)(hh:Qgz N l c s to v):Qci N l lb c s:=by obtain ⟨y,hy,h1,h2⟩:=hh.sy;have hm:=Zm hy;refine ⟨y,hy,fun e=>h1 ?_,h2⟩;rw [←Qhx h.ok h.hl h.hb h.hn hm y.2.1 y.1 rfl (.inr rfl) hm e.symm];exact h2
theorem stO_c (h:Qqn N l lb c x)(ha:Qci N l lb c a)(hb:b≠to) (hs:StQ N l c to (Qcu N lb) a b d):StC N lb x a b d∧Qci N l lb c a∧Qci N l lb c b:=by
 obtain ⟨_,pr,⟨y,z,hy,hz,k1,k2,k3,k4⟩,z',hz',hf,ho⟩:=hs;rw [hz] at hz';cases hz';rcases ho with ⟨e,_⟩|⟨_,h1,h2,h3,rfl⟩
 {exact absurd e hb};{refine ⟨⟨pr,⟨y,z,hy,hz,k1,k2,k3,h3,rfl,k4⟩,hf,fun hm=>?_⟩,ha,z,hz,fun e=>k3 (by rw [←e];exact k2),h2⟩;obtain ⟨z',hz',_,g⟩:=(Qbr h.hx).1 hm;rw [hz] at hz';cases hz';exact g h2}
theorem c_stO (h:Qqn N l lb c x) (hto:(to:Int)∈x.2) (hs:StC N lb x a b d∧Qci N l lb c a∧Qci N l lb c b):StQ N l c to (Qcu N lb) a b d∧b≠to:=by obtain ⟨⟨v,⟨y,z,hy,hz,k1,k2,k3,k4,rfl,k5⟩,h5,h6⟩,⟨y',hy',_,g2⟩,⟨z',hz',_,g4⟩⟩:=hs;rw [hy] at hy';cases hy';rw [hz] at hz';cases hz';have hin:∀ q w,N.ar[q]?=some w→Qaa l w.2.1=c→q≠to:=fun q w hq hc e=>by{subst e;obtain ⟨w',hw',_,g⟩:=(Qbr h.hx).1 hto;rw [hq] at hw';cases hw';exact g hc};have hbt:=hin b z hz g4;refine ⟨⟨hin a y hy g2,v,⟨y,z,hy,hz,k1,k2,k3,k5⟩,z,hz,h5,.inr ⟨hbt,?_,g4,k4,rfl⟩⟩,hbt⟩;rw [←Qhx h.ok h.hl h.hb h.hn (Zm hy) y.2.1 z.1 rfl (.inr rfl) (Zm hz) k2.symm];exact g2
theorem Qzf (h:Qqn N l lb c x)(hh:Qgz N l c s to v) (hr:Rch (StQ N l c to (Qcu N lb)) s p e):(p≠to→Rch (fun a m d=>StC N lb x a m d∧Qci N l lb c a∧Qci N l lb c m) s p e∧Qci N l lb c p)∧(p=to→Qok (StA N (Qbv l c)) (OuA N) s to e):=by
 induction hr with
 | start=>exact ⟨fun _=>⟨.start,h.start hh⟩,fun e=>absurd e hh.ne⟩
 | @step p q e d h1 h2 ih =>obtain ⟨ih1,hin⟩:=ih.1 h2.1;refine ⟨fun hq=>?_,fun hq=>?_⟩;{have:=stO_c h hin hq h2;exact ⟨ih1.step this,this.2.2⟩};{subst hq;obtain ⟨_,pr,⟨y,z,hy,hz,k1,k2,k3,k4⟩,z',hz',hf,ho⟩:=h2;(rcases ho with ⟨_,rfl⟩|⟨g,_⟩);{have hto:=h.to_in hh;have hN:=h.nest hto;obtain ⟨p',c2,t,g1,g2,rfl⟩:=hN.cout p q d ⟨⟨⟨y,z,hy,hz,k1,k2,k3,k4⟩,hf,hto⟩,hin,rfl⟩;exact ⟨p',e+c2,t,(hN.up ih1).trans (g1.mono hN.sub),g2.1,by omega⟩};{exact absurd rfl g}}
theorem Qqn.okK (h:Qqn N l lb c x)(hh:Qgz N l c s to v):Qwe (StQ N l c to (Qcu N lb)) s to N.ar.length v:=by
 obtain ⟨y,hy,_,_⟩:=hh.sy;have hlo:∀ e,Rch (StQ N l c to (Qcu N lb)) s to e→v≤e:=fun e hr=>hh.out.2 e ((Qzf h hh hr).2 rfl)
 refine ⟨fun p q d hs=>?_,(Zs hy).1,?_,hlo,(hh.bd h.ok).2⟩;{obtain ⟨_,pr,⟨y,z,hy,hz,k1,k2,k3,k4⟩,ho⟩:=hs;(have hf:pr≠1152921504606846976:=by obtain ⟨_,_,h,_⟩:=ho;exact h);exact ho.bd h.ok ((k4.bd h.ok).resolve_left hf)}
 · obtain ⟨p,c1,d,h1,h2,e1⟩:=hh.out.1;have hto:=h.to_in hh;have hN:=h.nest hto;obtain ⟨a,e1,e2,ha,g1,g2,g3⟩:=hN.down (fun p q d _=>Classical.em _) (h.start hh) h1;obtain ⟨d',hd',hle⟩:=hN.cout2 a p to e2 d ha g2 ⟨h2,rfl⟩
   have hup:∀ q f,Rch (fun a m d=>StC N lb x a m d∧Qci N l lb c a∧Qci N l lb c m) s q f→Rch (StQ N l c to (Qcu N lb)) s q f:=fun q f hr=>by
    induction hr with
    | start=>exact .start
    | step _ h2 ih=>exact ih.step (c_stO h hto h2).1
   obtain ⟨⟨⟨y,z,hy,hz,k1,k2,k3,k4⟩,hf,_⟩,_,_⟩:=hd';have hat:a≠to:=by{obtain ⟨w,hw,_,hc⟩:=ha;exact hh.in_ne hw hc};have hr:=(hup a e1 g1).step (show StQ N l c to (Qcu N lb) a to d' from ⟨hat,d',⟨y,z,hy,hz,k1,k2,k3,k4⟩,z,hz,hf,.inl ⟨rfl,rfl⟩⟩);have:=hlo _ hr;rw [show v=e1+d' by omega];exact hr
theorem nxO_kid (hok:Qap N) {ls:List (List Int)} {cl:List Int} (hA:Qct N ls cl) {j i k:Nat} {y:Tri} {x:Qan} (hl:ls[j]?=some lb) (hy:N.ar[a]?=some y) (hg:Qaa lb y.1≠Qaa lb y.2.1) (ha:a≠to)
 (hc:Qaa lb y.2.1=(k:Int)) (hx:(Qaf N.ar lb)[k]?=some x) (hi:x.1[i]?=some (a:Int)):NxO N (StQ N l c to (Qcu N lb)) (OpS N l c to) a x.2 ((cl.drop (Qfi (Qae N.ar ls) (Qaf N.ar lb) j k x i 0)).take x.2.length):=by have hat:∀ (k':Nat) (o:Int),x.2[k']?=some o→∃ (b:Nat) (z:Tri) (v:Int),o=(b:Int)∧N.ar[b]?=some z∧Qaa lb z.1=(k:Int)∧Qaa lb z.2.1≠(k:Int)∧((cl.drop (Qfi (Qae N.ar ls) (Qaf N.ar lb) j k x i 0)).take x.2.length)[k']?=some v∧Qet N (Qbv lb k) a b v:=by{intro k' o ho;have hk:=(Zs ho).1;have hm:=Zm ho;obtain ⟨b,rfl⟩:=Qdc hx ho;obtain ⟨z,hz,h1,h2⟩:=(Qbr hx).1 hm;obtain ⟨v,hv,hv2⟩:=hA.at_ (show Qfs N ls (Qfi (Qae N.ar ls) (Qaf N.ar lb) j k x i k') j lb k x i k' a b from ⟨hl,hx,hi,ho,rfl⟩);exact Kcj};have hlen:((cl.drop (Qfi (Qae N.ar ls) (Qaf N.ar lb) j k x i 0)).take x.2.length).length=x.2.length:=by{exact Kbg};refine ⟨hlen,fun k' o v ho hv=>?_,fun b d hd=>?_⟩;{obtain ⟨b,z,v',rfl,hz,h1,h2,h3,h4⟩:=hat k' o ho;rw [hv] at h3;cases h3;have hb:=h4.bd hok;exact ⟨b,z,rfl,hz,by omega,by omega,fun d hd=>⟨ha,v,⟨y,z,hy,hz,hg,by rw [h1,hc],by rw [hc];exact h2,by rw [hc];exact h4⟩,hd⟩⟩};{obtain ⟨_,v,⟨y',z,hy',hz,_,h5,h6,h8⟩,ho⟩:=hd;rw [hy] at hy';cases hy';(rw [hc] at h5 h6 h8;obtain ⟨k',hk⟩:=Yr ((Qbr hx).2 ⟨z,hz,h5,h6⟩);obtain ⟨b',z',v',e,hz',_,_,h3,h4⟩:=hat k' _ hk;obtain rfl:b=b':=by omega);rw [hz] at hz';cases hz';obtain rfl:=Lst.uniq h8 h4;exact ⟨k',v,hk,h3,ho⟩}
end
end Go.Proofs.YtdheeddnkdhfeaaGreatDoor
