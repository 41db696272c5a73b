/- Qbl of the proof: One, All, Aq, AsP, RoP, RoQ, RoA, RoR. -/
import Derived.Test.YtkaaakbejnlbgaaGreatDoorD16
import Derived.Laws.CopyOwn
set_option maxHeartbeats 2000000
namespace Go.Proofs.YtkaaakbejnlbgaaGreatDoor
open Go.RowKit Go.Proofs.Tryz
attribute [local go_sem ↓] Go.wp_at_zero Go.wp_at_succ
def OneR (w:World)(N:Qak)(l:Iz)(c:Nat)(x:Qap)(e:Ending)(w':World):Prop :=
 ∃ (A:Oz) (cp:Nat) (ces:Iz),e=.returned (.slice A (szG x) cp)∧RdI w' A (szG x) ces∧(∀ (a b s t:Nat),x.1[a]?=some (s:Int)→x.2[b]?=some (t:Int)→Qhc N (Qgd l c) s t (ces.getD (a*x.2.length+b) 0))∧Bw w w'
def LowE (N:Qak) (ls:Lz) (i:Nat) (costs:Iz):Prop:=∀ (lb:Iz) (q:Nat) (y:Qap) (a b s t:Nat),ls[i]?=some lb→(Qaf N.ar lb)[q]?=some y→y.1[a]?=some (s:Int)→y.2[b]?=some (t:Int)→Qhc N (Qgd lb q) s t (costs.getD (Qim (Qah N.ar ls) (Qaf N.ar lb) i q y a b) 0)
theorem LowE.ex {N:Qak}(hok:Qar N) {ls:Lz} {lb:Iz} {j:Nat} {costs:Iz} (h:LowE N ls j costs) (hb:ls[j]?=some lb) (hBv:Qgz N.vs.length lb) {l:Iz} {c:Nat} :
 ∀ (a m:Nat) (y z:Tri),Qff N l lb c a→N.ar[a]?=some y→N.ar[m]?=some z→Qad lb z.1=Qad lb y.2.1→Qad lb z.2.1≠Qad lb y.2.1→∃ v,Qhc N (Qgd lb (Qad lb y.2.1)) a m v:=fun a m y z hk hy hz h1 h2=>by obtain ⟨y',hy',k1,_⟩:=hk;rw [hy] at hy';cases hy';have ho:=hok.arcs y (Zm hy);have o0:=ho.g0;have o1:=ho.g1;obtain ⟨u,hu⟩:∃ u:Nat,y.2.1=(u:Int):=⟨y.2.1.toNat,Oo⟩;have e1:=Qds (l:=lb) (v:=u) (by rw [hBv.len];omega);rw [←hu] at e1;obtain ⟨q,hq,g,hg⟩:=Qky (ar:=N.ar) hBv (Zm e1);rw [hq] at h1 h2 ⊢;obtain ⟨k,hk⟩:=Yr ((Qef hg).2 ⟨y,hy,by rw [←hq];exact k1,hq⟩);obtain ⟨b,hb'⟩:=Yr ((Qcn hg).2 ⟨z,hz,h1,h2⟩);exact ⟨_,h lb q g k b a m hb hg hk hb'⟩
theorem one_ok (w:World)(g o i c:Nat)(N:Qak) (ls:Lz) (l:Iz) (x:Qap) (CA:Oz) (NC cC:Nat) (costs:Iz) (hg:Qfg w g N) (hok:Qar N) (ho:Qjm w o N.ar ls) (hP:Qbt N.vs.length ls) (hl:ls[i]?=some l) (hx:(Qaf N.ar l)[c]?=some x)
 (hc:RdI w CA NC costs) (hNC:Qcy (Qah N.ar ls)≤NC) (hNC2:NC≤1000000000) (hcost:∀ z∈costs,0≤z∧z≤1152921504606846976) (hlow:∀ j,i=j+1→LowE N ls j costs) :
 Calls prog 73 #[.pointer (some ⟨g,0,none⟩),.pointer (some ⟨o,0,none⟩),.int .i64 ((i:Int)+1),.int .i64 c,.slice CA NC cC] w (OneR w N l c x):=by
 have hla:=hok.la;have hL6:ls.length≤6:=hP.l6;have hi5:(i:Int)≤5:=by have:=(Zs hl).1;omega
 have hLv:=hP.lvl l (Zm hl);have hcM:c<(Qay l).toNat:=by rw [←Qau N.ar l];exact (Zs hx).1
 have hcm:(c:Int)<((Qay l).toNat:Int):=Oo
 have HCE:=Zh (Qoh o i _ N.ar ls l w ho hl Oo rfl);have HGT:=Zh (Qoi o i c N.ar ls l x w ho hl Oo hx Oo);have HG:=Zh hg;have HO:=Zh ho;have HP:=Zh hP;have HL:=Zh hl;have HX:=Zh hx;have HC:=Zh hc;have HCO:=Zh hcost;have HLOW:=Zh hlow;have HLL:=Zh hLv.len;have hgx:=Qcd hx;obtain ⟨MM,hMM⟩:=Zx ((Qay l).toNat);rw [←hMM] at HCE hcm;clear hg ho hP hl hx hc hcost hlow hLv hcM hMM;go_enter func73,ntmps73
 go_wp2_with fail
 with_reducible refine HCE.o.mono ?_
 rintro e w' ⟨rfl,rfl⟩;go_wp2_with fail
 with_reducible refine HGT.o.mono ?_
 rintro e w1 ⟨B1,m1,d1,B2,m2,d2,rfl,ho1,ho2,hb1⟩;have hm1:x.1.length=m1:=by have:=ho1.1;simpa [Qae] using this
 have hm2:x.2.length=m2:=by have:=ho2.1;simpa [Qae] using this
 have HO1:=Zh ho1;have HO2:=Zh ho2;have HB1:=Zh hb1;clear ho1 ho2 hb1;by_cases h10:m1=0;{have HE:=Zh h10;subst h10;(go_wp2_with fail);go_ret;refine ⟨none,0,[],by unfold szG;rw [hm1,Nat.zero_mul];rfl,⟨by unfold szG;rw [hm1,Nat.zero_mul];rfl,fun i x h=>by simp at h⟩,fun a b s t h=>?_,(HB1.o.trans ((Zr _ _).alloc (Zn _) _ |>.mono HB1.o.size))⟩;have:=(Zs h).1;omega}
 · (have e10:((m1:Int) == 0)=false:=by simp;omega);by_cases h20:m2=0;{have HE:=Zh h20;subst h20;(go_wp2_with fail);go_ret;refine ⟨none,0,[],by unfold szG;rw [hm2,Nat.mul_zero];rfl,⟨by unfold szG;rw [hm2,Nat.mul_zero];rfl,fun i x h=>by simp at h⟩,fun a b s t _ h=>?_,(HB1.o.trans ((Zr _ _).alloc (Zn _) _ |>.mono HB1.o.size))⟩;have:=(Zs h).1;omega}
   · (have e20:((m2:Int) == 0)=false:=by simp;omega);rcases Nat.eq_zero_or_pos i with hi0|hi0
     · subst hi0;(go_wp2_with fail);(refine Qai ?_;intro w2 hw2);(have hb2:Bw w1 w2:=by rw [hw2];exact Qag);(have hX2:Blk w2 w1.heap.size 215 #[.slice B1 m1 d1,.slice B2 m2 d2]:=by rw [hw2];exact Blk.new _ _ _);clear hw2;have x1:w2.cell? ⟨w1.heap.size,1,none⟩=some (.slice B2 m2 d2):=Zq hX2;have HB2:=Zh (Zb HB1.o hb2);have HBA:=Zh (fun V (hV:Bw w2 V)=>Rem V g N l c x B1 B2 m1 m2 d1 d2 (HG.o.below (Zb (Zb HB1.o hb2) hV)) hok HLL.o HX.o ((HO1.o.below hb2).rds.rdI.below hV) ((HO2.o.below hb2).rds.rdI.below hV));have HSX:=Zh (show ∀ V,Blk V w1.heap.size 215 #[.slice B1 m1 d1,.slice B2 m2 d2]→V.cell? ⟨w1.heap.size,0,none⟩=some (.slice B1 m1 d1)∧V.cell? ⟨w1.heap.size,1,none⟩=some (.slice B2 m2 d2) from fun V hV=>⟨hV.two.1,hV.two.2.1⟩);(clear hb2;refine wp_region_held_drew (S:=fun V=>Blk V w1.heap.size 215 #[.slice B1 m1 d1,.slice B2 m2 d2]) Kf hX2.drew (fun _=>?_);refine tzb 0 37 ?_;refine tzb 3 40 ?_;refine tz 5 42 ?_;refine Zk 2 (fun K hK=>?_);go_simp;with_reducible refine (HBA.o _ (Zr _ _).drew).mono ?_);rintro e w3 ⟨SA,sc,c9,arcs,L,rfl,hS,hNx,hFA,hFl,hnil,hnd,har,hins,hn1,hb3⟩;have hb23:Bw w2 w3:=(Zr _ _).drew.trans hb3;have hX3:=hX2.below hb23 hX2.lt;go_simp;refine hK.out _ _ hX3 (fun _=>?_);clear hK K;refine Zk 6 (fun K hK=>?_);go_simp
       have HLE:=Zh (Qzw w3 arcs.length m1 sc m2 _ SA _ (List.range m1) L MB 4294967296 hS (fun s hs=>by have:=List.mem_range.1 hs;omega) har Oo Oo Oo hNx hFl hnil (fun s hs p d hr=>by
        have hs':=List.mem_range.1 hs;exact hFA.bound hok HLL.o HX.o (Zg Oo) hnd p d hr) (by unfold MB;omega) Oo (by unfold MB;omega))
       (have HFA:=Zh hFA;have HINS:=Zh hins;have HB3:=Zh (Zb HB2.o hb23);clear hS hNx hFA hFl hnil hnd har hins hn1 hb3 hb23;with_reducible refine HLE.o.mono ?_);rintro e w4 ⟨bb,ces,rfl,hbb,hcl,hlst,hbs,hb4⟩;have hX4:=hX3.below hb4 hX3.lt;have HBB:=Zh hbb;have HCL:=Zh hcl;have HLST:=Zh hlst;have HB4:=Zh (Zb HB3.o hb4);clear hbb hcl hlst hbs hb4;go_simp;refine hK.out _ _ hX4 (fun _=>?_);clear hK K;refine tz 7 10 ?_;refine Zd ?_;(go_wp2_with fail);go_ret;(have hsz:szG x=m1*m2:=by unfold szG;rw [hm1,hm2]);refine ⟨some ⟨bb,0,none⟩,m1*m2,ces,by rw [hsz];rfl,by rw [hsz];exact HBB.o.rdI HCL.o,fun a b s t ha hb=>?_,HB4.o⟩;have ha':=(Zs ha).1;have hb':=(Zs hb).1;rw [hm2];exact HFA.o.entry hok HLL.o HX.o (HINS.o a s ha) hb (HLST.o a a b (by rw [List.getElem?_range Oo]) Oo)
     · obtain ⟨j,rfl⟩:∃ j,i=j+1:=⟨i-1,Oo⟩;obtain ⟨lb,hlb⟩:∃ lb,ls[j]?=some lb:=⟨_,Zg (by have:=(Zs HL.o).1;omega)⟩;have hE:=HLOW.o j rfl;have hBv:=HP.o.lvl lb (Zm hlb);have hnest:=HP.o.nest j lb l hlb HL.o;have hbt:((x.2.getD 0 0).toNat:Int)∈x.2:=by{obtain ⟨z,hz⟩:∃ z,x.2[0]?=some z:=⟨_,Zg Oo⟩;obtain ⟨m,rfl⟩:=Qfu HX.o hz;rw [Ya,hz];exact Zm hz};(have HEX:=Zh (hE.ex hok hlb hBv (l:=l) (c:=c));have e30:((j:Int)+1+1 == 1)=false:=by simp;omega);have HLB:=Zh hlb;have HEE:=Zh hE;have HBV:=Zh hBv;have HNE:=Zh hnest;have HBT:=Zh hbt;clear hlb hE hBv hnest hbt;(go_wp2_with fail);(refine Qai ?_;intro w2 hw2);(have hb2:Bw w1 w2:=by rw [hw2];exact Qag);(have hX2:Blk w2 w1.heap.size 215 #[.slice B1 m1 d1,.slice B2 m2 d2]:=by rw [hw2];exact Blk.new _ _ _);clear hw2;have hbw2:=Zb HB1.o hb2;have HB2:=Zh hbw2;have HBK:=Zh (fun V (hV:Bw w2 V)=>Ren V g o j c N ls l lb x B1 B2 CA m1 m2 d1 d2 NC cC costs (HG.o.below (Zb hbw2 hV)) hok (HO.o.below (Zb hbw2 hV)) HP.o HL.o HLB.o HX.o ((HO1.o.below hb2).rds.rdI.below hV) ((HO2.o.below hb2).rds.rdI.below hV) (HC.o.below (Zb hbw2 hV)) hNC hNC2 HCO.o (fun q y a b s t h1 h2 h3=>HEE.o lb q y a b s t HLB.o h1 h2 h3));have HSX:=Zh (show ∀ V,Blk V w1.heap.size 215 #[.slice B1 m1 d1,.slice B2 m2 d2]→V.cell? ⟨w1.heap.size,0,none⟩=some (.slice B1 m1 d1)∧V.cell? ⟨w1.heap.size,1,none⟩=some (.slice B2 m2 d2) from fun V hV=>⟨hV.two.1,hV.two.2.1⟩);(clear hb2 hbw2;refine wp_region_held_drew (S:=fun V=>Blk V w1.heap.size 215 #[.slice B1 m1 d1,.slice B2 m2 d2]) Kf hX2.drew (fun _=>?_);refine tzd 0 44 ?_;refine tzb 4 48 ?_;refine tzb 7 51 ?_;refine tz 9 53 ?_;refine Zk 6 (fun K hK=>?_);go_simp;with_reducible refine (HBK.o _ (Zr _ _).drew).mono ?_);(rintro e w3 ⟨SA,sc,cs,cl,cc,pl,starts,L,rfl,hS,hNx,hFB,hnil,hpl,hst,hb3⟩;have hb23:Bw w2 w3:=(Zr _ _).drew.trans hb3;have hX3:=hX2.below hb23 hX2.lt;go_simp;refine hK.out _ _ hX3 (fun _=>?_);clear hK K;refine Zk 10 (fun K hK=>?_);go_simp;have hstl:starts.length=m1:=by have:=hS.1;rw [Qeg] at this;exact this);have hstp:∀ p∈starts,∃ s,pl[p]?=some s:=fun p hp=>by{obtain ⟨k,hk⟩:=Yr hp;have hkl:=(Zs hk).1;obtain ⟨z,hz⟩:∃ z,x.1[k]?=some z:=⟨_,Zg Oo⟩;obtain ⟨s,rfl⟩:=Qjy HX.o hz;obtain ⟨p',e1,e2⟩:=hst k s hz;rw [hk] at e1;cases e1;exact ⟨s,e2⟩};have hFl:=hFB.fld hok;rw [hm2] at hFl
       have HLE:=Zh (Qzw w3 pl.length m1 sc m2 _ SA _ starts L MB 70377334112256 hS (fun s hs=>by obtain ⟨s',e⟩:=hstp s hs;exact (Zs e).1) hpl Oo Oo Oo hNx hFl hnil (fun s hs p d hr=>by
        obtain ⟨s',e⟩:=hstp s hs;exact hFB.bound hok HLL.o HBV.o.len HNE.o HX.o HEX.o _ HBT.o e p d hr) (by unfold MB;omega) Oo (by unfold MB;omega))
       (have HFB:=Zh hFB;have HST:=Zh hst;have HB3:=Zh (Zb HB2.o hb23);clear hS hNx hFB hFl hnil hpl hst hb3 hb23 hstl hstp;with_reducible refine HLE.o.mono ?_);rintro e w4 ⟨bb,ces,rfl,hbb,hcl,hlst,hbs,hb4⟩;have hX4:=hX3.below hb4 hX3.lt;have HBB:=Zh hbb;have HCL:=Zh hcl;have HLST:=Zh hlst;have HB4:=Zh (Zb HB3.o hb4);clear hbb hcl hlst hbs hb4;go_simp;refine hK.out _ _ hX4 (fun _=>?_);clear hK K;refine tz 11 10 ?_;refine Zd ?_;(go_wp2_with fail);go_ret;(have hsz:szG x=m1*m2:=by unfold szG;rw [hm1,hm2]);refine ⟨some ⟨bb,0,none⟩,m1*m2,ces,by rw [hsz];rfl,by rw [hsz];exact HBB.o.rdI HCL.o,fun a b s t ha hb=>?_,HB4.o⟩;have ha':=(Zs ha).1;have hb':=(Zs hb).1;rw [hm2];obtain ⟨p,e1,e2⟩:=HST.o a s ha;exact HFB.o.entry hok HLL.o HBV.o.len HNE.o HX.o HEX.o e2 hb (HLST.o a p b e1 Oo)
def Qgy (N:Qak) (ls:Lz) (i c:Nat) (cl:Iz):Prop:=∀ (k:Nat) (lb:Iz) (q:Nat) (y:Qap) (a b s t:Nat),k<i∨k=i∧q<c→ls[k]?=some lb→(Qaf N.ar lb)[q]?=some y→y.1[a]?=some (s:Int)→y.2[b]?=some (t:Int)→Qhc N (Qgd lb q) s t (cl.getD (Qim (Qah N.ar ls) (Qaf N.ar lb) k q y a b) 0)
def Qnc (cl:Iz):Prop:=∀ z∈cl,0≤z∧z≤1152921504606846976
theorem Qxe {L cs:Iz}{off k:Nat}(h:off+cs.length≤L.length) :
 (splice L off cs).getD k 0=if k<off then L.getD k 0 else if k<off+cs.length then cs.getD (k-off) 0 else L.getD k 0:=by
 unfold splice;simp only [Ya];by_cases h1:k<off
 {rw [if_pos h1,Yc (by simp;omega),List.getElem?_take_of_lt h1]};{rw [if_neg h1];(have hl:(L.take off).length=off:=by rw [Yw];omega);rw [Yb Oo,hl];(by_cases h2:k<off+cs.length);{rw [if_pos h2,Yc Oo]};{rw [if_neg h2,Yb Oo,List.getElem?_drop];(congr 2);omega}}
theorem Rcw {L cs:Iz}{off:Nat}{z:Int}(h:z∈splice L off cs):z∈L∨z∈cs:=by
 unfold splice at h;simp only [List.mem_append] at h;rcases h with h|h|h
 {exact .inl (List.mem_of_mem_take h)};{exact .inr h};{exact .inl (List.mem_of_mem_drop h)}
theorem Qry (L cs:Iz)(off:Nat):splice (Qae L) off (Qae cs)=Qae (splice L off cs):=by unfold splice Qae;simp [List.map_take,List.map_drop]
theorem Quf {N:Qak}{l:Iz}{c:Nat}{x:Qap} (hx:(Qaf N.ar l)[c]?=some x) {k:Nat} (hk:k<szG x) :
 ∃ a b s t:Nat,k=a*x.2.length+b∧x.1[a]?=some (s:Int)∧x.2[b]?=some (t:Int):=by
 have hk2:k<x.1.length*x.2.length:=hk
 generalize hm:x.2.length=m at hk2
 have hn2:0<m:=by
  rcases Nat.eq_zero_or_pos m with h|h
  {rw [h,Nat.mul_zero] at hk2;omega};{exact h}
 have hb:k % m<m:=Nat.mod_lt k hn2
 have ha:k / m<x.1.length:=(Nat.div_lt_iff_lt_mul hn2).2 hk2
 have e:k=k / m*m+k % m:=by have:=Nat.div_add_mod k m;rw [Nat.mul_comm] at this;exact this.symm
 obtain ⟨a,h1⟩:=Zx (k / m);obtain ⟨b,h2⟩:=Zx (k % m);rw [←h1] at ha e;rw [←h2] at hb e;obtain ⟨z1,h3⟩:∃ z,x.1[a]?=some z:=⟨_,Zg ha⟩;obtain ⟨z2,h4⟩:∃ z,x.2[b]?=some z:=⟨_,Zg (by rw [hm];exact hb)⟩;obtain ⟨s,hs⟩:=Qjy hx h3;obtain ⟨t,ht⟩:=Qfu hx h4;exact ⟨a,b,s,t,e,by rw [h3,hs],by rw [h4,ht]⟩
theorem Qnc.next {N:Qak}(hok:Qar N){l:Iz}{c off:Nat}{x:Qap}{cl ces:Iz}(h:Qnc cl) (hx:(Qaf N.ar l)[c]?=some x) (hl:ces.length=szG x)
 (he:∀ (a b s t:Nat),x.1[a]?=some (s:Int)→x.2[b]?=some (t:Int)→Qhc N (Qgd l c) s t (ces.getD (a*x.2.length+b) 0)):Qnc (splice cl off ces):=fun z hz=>by
 rcases Rcw hz with h1|h1
 {exact h z h1};{obtain ⟨k,hk⟩:=Yr h1;have hk':=(Zs hk).1;obtain ⟨a,b,s,t,e,h2,h3⟩:=Quf hx (k:=k) Oo;have h4:=he a b s t h2 h3;rw [←e,Ya,hk] at h4;have:=h4.bd hok;simp at this;omega}
theorem Qgy.next {N:Qak} {ls:Lz} {i c:Nat} {l:Iz} {x:Qap} {cl ces:Iz} (h:Qgy N ls i c cl) (hl:ls[i]?=some l) (hx:(Qaf N.ar l)[c]?=some x) (hn:ces.length=szG x)
 (hfit:Qcy ((Qah N.ar ls).take i)+Qfe ((Qaf N.ar l).take c)+szG x≤cl.length)
 (he:∀ (a b s t:Nat),x.1[a]?=some (s:Int)→x.2[b]?=some (t:Int)→Qhc N (Qgd l c) s t (ces.getD (a*x.2.length+b) 0)) :
 Qgy N ls i (c+1) (splice cl (Qcy ((Qah N.ar ls).take i)+Qfe ((Qaf N.ar l).take c)) ces):=fun k lb q y a b s t hk hb hy h1 h2=>by
 have ha':=(Zs h1).1;have hb':=(Zs h2).1;rw [Qxe Oo];by_cases hkq:k<i∨k=i∧q<c
 {have hlt:Qim (Qah N.ar ls) (Qaf N.ar lb) k q y a b<Qcy ((Qah N.ar ls).take i)+Qfe ((Qaf N.ar l).take c):=by{(rcases hkq with h3|⟨rfl,h3⟩);{have e1:=Qmn (Qdb (ar:=N.ar) hb) hy ha' hb';have e2:=Qkm (Qah N.ar ls) (show k+1≤i from h3);omega};{rw [hl] at hb;cases hb;have e1:=Qwy (gs:=Qah N.ar ls) (i:=k) hy ha' hb';have e2:=Qko (Qaf N.ar l) (show q+1≤c from h3);omega}};rw [if_pos hlt];exact h k lb q y a b s t hkq hb hy h1 h2};{(obtain ⟨rfl,rfl⟩:k=i∧q=c:=Oo);rw [hl] at hb;cases hb;rw [hx] at hy;cases hy;have hin:a*x.2.length+b<szG x:=by{unfold szG;have e1:(a+1)*x.2.length≤x.1.length*x.2.length:=Nat.mul_le_mul_right _ ha';rw [Nat.add_mul,Nat.one_mul] at e1;omega};(rw [if_neg (by unfold Qim;omega),if_pos (by unfold Qim;omega)];have:Qim (Qah N.ar ls) (Qaf N.ar l) k q x a b-(Qcy ((Qah N.ar ls).take k)+Qfe ((Qaf N.ar l).take q))=a*x.2.length+b:=by unfold Qim;omega);rw [this];exact he a b s t h1 h2}
theorem Qgy.start (N:Qak) (ls:Lz) (cl:Iz):Qgy N ls 0 0 cl:=fun k lb q y a b s t hk=>by omega
theorem Qgy.up {N:Qak} {ls:Lz} {i c:Nat} {l:Iz} {cl:Iz} (h:Qgy N ls i c cl) (hl:ls[i]?=some l) (hc:(Qaf N.ar l).length≤c):Qgy N ls (i+1) 0 cl:=fun k lb q y a b s t hk hb hy h1 h2=>by
 refine h k lb q y a b s t ?_ hb hy h1 h2;by_cases e:k<i
 {exact .inl e};{(obtain rfl:k=i:=Oo);rw [hl] at hb;cases hb;have:=(Zs hy).1;exact .inr ⟨rfl,Oo⟩}
theorem Qgy.low {N:Qak} {ls:Lz} {i c j:Nat} {cl:Iz} (h:Qgy N ls i c cl) (hj:j<i):LowE N ls j cl:=fun lb q y a b s t hb hy h1 h2=>h j lb q y a b s t (.inl hj) hb hy h1 h2
theorem Rer {w:World}{ops:Array Oper}{o:Oper}{a:Act}{K:Act→World→Prop}{Q:Exit→Act→World→Prop}{E:Prop}(d':Option Tmp)(hd':o.dst=d')(hgd:o.guard=none)(d s:Operand)
 (ho:o.op=.call { callee:=.builtin .copy,args:=#[d,s],argTypes:=#[37,37] })
 (A:Oz) (n cp B off N:Nat) (cl ces:Iz) (hd:a.eval d=.slice (cutA 1 (some ⟨B,0,none⟩) off N) (N-off) (N-off)) (hs:a.eval s=.slice A n cp)
 (hB:Blk w B 2 (Qae cl).toArray) (hcl:cl.length=N) (hA:RdI w A n ces) (hfit:off+n≤N)
 (h:∀ w',Blk w' B 2 (Qae (splice cl off ces)).toArray→Below B w w'→K (a.put d' (.int .i64 n)) w') :
 if Region.wanted o (yielded ops a.tmps)=true then Oper.wp prog o a w K Q else E:=by
 subst hd';have hlen:ces.length=n:=hA.1
 refine step_copy_splice hgd d s 37 37 ho 2 underlying37 Kf _ A _ _ n cp hd hs B off (Qae cl) 2 hB (Qae ces) (by rw [show (Qae ces).length=n by simp [Qae,hlen]];exact (Nat.min_eq_left Oo).symm) (fun hp=>?_)
  (by simp [Qae,hlen,hcl];omega) (Qaq _) B w (Zr _ _) (Zn _) (fun w' h1 h2=>?_)
 {(have hn:0<n:=by simpa [Qae,hlen] using hp);refine ⟨by unfold cutA;rw [if_neg Oo];by_cases h0:off=0 <;> simp [Addr.add,h0],?_⟩;obtain ⟨z,hz⟩:∃ z,ces[0]?=some z:=⟨_,Zg Oo⟩;obtain ⟨b,o',e,_⟩:=hA.2 0 z hz;refine ⟨_,e,fun j v hv=>?_⟩;have hj:∃ x,ces[j]?=some x∧v=.int .i64 x:=by{simp [Qae] at hv;obtain ⟨x,e1,e2⟩:=hv;exact ⟨x,e1,e2.symm⟩};obtain ⟨x,hx,rfl⟩:=hj;obtain ⟨b2,o2,e2,hc⟩:=hA.2 j x hx;rw [e] at e2;cases e2;unfold Addr.add;by_cases h0:j=0;{rw [if_pos h0];subst h0;exact hc};{rw [if_neg h0];exact hc}};{have hw:=h w' (by rw [←Qry];exact h1.out) h2;rw [show goInt (Qae ces).length=Value.int .i64 (n:Int) by simp [Qae,hlen,goInt]];exact hw}
def AllR (w:World)(N:Qak) (ls:Lz) (e:Ending) (w':World):Prop :=
 ∃ (B:Nat) (cl:Iz),e=.returned (.slice (some ⟨B,0,none⟩) (Qcy (Qah N.ar ls)) (Qcy (Qah N.ar ls)))∧w.heap.size≤B∧Blk w' B 2 (Qae cl).toArray∧cl.length=Qcy (Qah N.ar ls)∧Qnc cl∧Qgy N ls ls.length 0 cl∧Bw w w'
theorem all_ok (w:World)(g o:Nat)(N:Qak) (ls:Lz) (hg:Qfg w g N) (hok:Qar N) (ho:Qjm w o N.ar ls) (hP:Qbt N.vs.length ls) (hNC:Qcy (Qah N.ar ls)≤1000000000) :
 Calls prog 37 #[.pointer (some ⟨g,0,none⟩),.pointer (some ⟨o,0,none⟩)] w (AllR w N ls):=by
 have hL6:ls.length≤6:=hP.l6;have HG:=Zh hg;have HO:=Zh ho;have HP:=Zh hP;obtain ⟨NC,hNCe⟩:=Zx (Qcy (Qah N.ar ls));have HSZ:=Zh (Qva o N.ar ls w ho);rw [←hNCe] at HSZ hNC;have HNC:=Zh hNCe;obtain ⟨L,hL⟩:=Zx ls.length;have HL:=Zh hL;rw [←hL] at hL6;have hmk:=Qde NC Oo;clear hg ho hP hNCe hL;go_enter func37,ntmps37
 go_wp2_with fail
 with_reducible refine HSZ.o.mono ?_
 rintro e w' ⟨rfl,rfl⟩;go_wp2_with fail
 (refine Qai ?_;intro w1 hw1);have hb1:Below w.heap.size w w1:=by rw [hw1];exact Qag
 have hB1:Blk w1 w.heap.size 2 (Qae (List.replicate NC 0)).toArray:=by rw [hw1,show (Qae (List.replicate NC 0)).toArray=Qbg (.int .i64 0) NC by simp [Qae,Qbg]];exact Blk.new _ _ _
 clear hw1;obtain ⟨B,hBe⟩:=Zx w.heap.size;rw [←hBe] at hb1 hB1 ⊢;have HBE:=Zh hBe;clear hBe;go_loopw [6,7] (fun z q V=>Below B w V∧∃ (i at_:Nat) (cl:Iz),i≤L∧q=.int .i64 ((i:Int)+1)∧z=.int .i64 (at_:Nat)∧at_=Qcy ((Qah N.ar ls).take i)∧Blk V B 2 (Qae cl).toArray∧cl.length=NC∧Qnc cl∧Qgy N ls i 0 cl) (fun _ q _=>L+1-(intOf q).toNat)
 case atStart=>exact ⟨hb1,0,0,List.replicate NC 0,Nat.zero_le _,rfl,rfl,by simp [Qcy],hB1,Sm,fun z hz=>by have:=List.eq_of_mem_replicate hz;omega,Qgy.start _ _ _⟩
 case round =>
  obtain ⟨hbl,i,at_,cl,hi,rfl,rfl,hat,hB,hcl,hco,hdo⟩:=hrel;have HLV:=Zh (Qyb o N.ar ls wr (HO.o.below (by show Below _ _ _;rw [←HBE.o];exact hbl)));rw [←HL.o] at HLV;by_cases hiL:i<L
  rotate_left;{(obtain rfl:i=L:=Oo);(have i1:¬((i:Int)+1≤i):=Oo);have HAT:=Zh hat;have HB:=Zh hB;have HCL:=Zh hcl;have HCO:=Zh hco;have HDO:=Zh hdo;clear hat hB hcl hco hdo;(go_wp2_with fail);(with_reducible refine HLV.o.mono ?_);rintro e w' ⟨rfl,rfl⟩;(go_wp2_with fail);go_ret;exact ⟨B,cl,by rw [←HNC.o];rfl,by rw [HBE.o];exact Zn _,HB.o,by rw [←HNC.o];exact HCL.o,HCO.o,by rw [←HL.o];exact HDO.o,by show Below _ _ _;rw [←HBE.o];exact hbl⟩}
  · (have i1:(i:Int)+1≤L:=Oo);(obtain ⟨l,hl⟩:∃ l,ls[i]?=some l:=⟨_,Zg (by rw [←HL.o];exact hiL)⟩;obtain ⟨M,hM⟩:=Zx ((Qaf N.ar l).length);have HM:=Zh hM;have HCE:=Zh (Qoh o i M N.ar ls l wr (HO.o.below (by show Below _ _ _;rw [←HBE.o];exact hbl)) hl (by rw [←HL.o];omega) (by rw [hM,Qau]));have HLJ:=Zh hl;have HAT:=Zh hat;have HB:=Zh hB;have HCL:=Zh hcl;have HCO:=Zh hco;have HDO:=Zh hdo;have hatb:at_≤NC:=by rw [hat,HNC.o];exact Qkk _ _);have hMb:M≤4096:=by{have h1:=HP.o.lvl l (Zm hl);have h2:=Qcr (l:=l) (n:=(N.vs.length:Int)) (fun x hx=>h1.hi x hx) Oo;have h3:=hok.lv;rw [hM,Qau];omega};clear hat hB hcl hco hdo hl hM;(go_wp2_with fail);(with_reducible refine HLV.o.mono ?_);rintro e w' ⟨rfl,rfl⟩;(go_wp2_with fail);(with_reducible refine HCE.o.mono ?_);rintro e w' ⟨rfl,rfl⟩;(go_wp2_with fail);clear HLV HCE;(go_loopw [6,21] (fun z q V=>Below B w V∧∃ (c at2:Nat) (cl:Iz),c≤M∧q=.int .i64 (c:Nat)∧z=.int .i64 (at2:Nat)∧at2=Qcy ((Qah N.ar ls).take i)+Qfe ((Qaf N.ar l).take c)∧Blk V B 2 (Qae cl).toArray∧cl.length=NC∧Qnc cl∧Qgy N ls i c cl) (fun _ q _=>M-(intOf q).toNat));case atStart=>exact ⟨hbl,0,at_,cl,Nat.zero_le _,rfl,rfl,by rw [HAT.o];simp [Qfe],HB.o,HCL.o,HCO.o,HDO.o⟩
    case round =>
     obtain ⟨hbl2,c,at2,cl,hc,rfl,rfl,hat,hB,hcl,hco,hdo⟩:=hrel;have HAT2:=Zh hat;have HB2:=Zh hB;have HCL2:=Zh hcl;have HCO2:=Zh hco;have HDO2:=Zh hdo;clear HB HCL HCO HDO;(by_cases hcM:c<M);rotate_left;{(obtain rfl:c=M:=Oo);clear hat hB hcl hco hdo;(go_wp2_with fail);go_roundw;(case rel=>exact ⟨hbl2,i+1,at2,cl,Oo,by go_num,rfl,by rw [Qho (Qdb HLJ.o),HAT2.o,Ye (l:=Qaf N.ar l) (by rw [←HM.o];exact Zn _)],HB2.o,HCL2.o,HCO2.o,HDO2.o.up HLJ.o (by rw [←HM.o];exact Zn _)⟩);case measure=>simp [intOf];omega}
     · obtain ⟨x,hx⟩:∃ x,(Qaf N.ar l)[c]?=some x:=⟨_,Zg (by rw [←HM.o];exact hcM)⟩;have HX:=Zh hx;have hat3:at2+szG x≤NC:=by{have e1:=Ram (Qaf N.ar l) (c+1);have e2:=Qkk (Qah N.ar ls) (i+1);rw [Qho (Qdb HLJ.o),←HNC.o] at e2;rw [Qhp hx] at e1;omega};(have HON:=Zh (fun V (hV:Bw wr V)=>one_ok V g o i c N ls l x (some ⟨B,0,none⟩) NC NC cl (HG.o.below (Zb (by show Below _ _ _;rw [←HBE.o];exact hbl2) hV)) hok (HO.o.below (Zb (by show Below _ _ _;rw [←HBE.o];exact hbl2) hV)) HP.o HLJ.o hx ((Blk.below hB hV hB.lt).rdI hcl) (by rw [←HNC.o];exact Zn _) hNC hco (fun j hj=>hdo.low Oo));have hsl:=fun W=>Rhu (P:=prog) 37 2 1 underlying37 Kf Kf (some ⟨B,0,none⟩) NC NC at2 (NC-at2) Oo rfl .i64 (at2:Int) rfl W);clear hat hB hcl hco hdo hx;(go_wp2_with fail);(refine wp_region_held_drew (S:=fun _=>True) Kf trivial (fun _=>?_);refine tzd 0 24 ?_;refine tzd 4 28 ?_;refine tz 8 32 ?_;refine Zk 9 (fun K hK=>?_);go_simp;with_reducible refine (HON.o _ (Zr _ _).drew).mono ?_);(rintro e w3 ⟨A,cp,ces,rfl,hA,hent,hb3⟩;have hb23:Bw wr w3:=(Zr _ _).drew.trans hb3;have HB3:=Zh (Blk.below HB2.o hb23 HB2.o.lt);have HA:=Zh hA;have HE:=Zh hent;clear hA hent hb3;go_simp;refine hK.out _ _ trivial (fun _=>?_);clear hK K;refine Zk 10 (fun K hK=>?_);with_reducible refine Rer (some 34) rfl rfl (.tmp 27) (.tmp 33) rfl A (szG x) cp B at2 NC cl ces rfl rfl HB3.o HCL2.o HA.o hat3 ?_);intro w4 hB4 hb4;have HB4:=Zh hB4;have hbw4:Below B w w4:=hbl2.trans ((hb23.mono (by have:=HB2.o.lt;omega)).trans hb4);clear hB4 hb4 hb23;go_simp;refine hK.out _ _ trivial (fun _=>?_);clear hK K;refine tz 11 35 ?_;refine tz 12 6 ?_;refine Zd ?_;(go_wp2_with fail);go_roundw
       case rel=>exact ⟨hbw4,c+1,at2+szG x,splice cl at2 ces,Oo,by go_num,by rw [IntWalk.i64_in _ Oo];rfl,by rw [Qhp HX.o,HAT2.o];omega,HB4.o,by rw [length_splice _ _ _ (by rw [HA.o.1,HCL2.o];exact hat3)];exact HCL2.o,HCO2.o.next hok HX.o HA.o.1 HE.o,by
        have:=HDO2.o.next HLJ.o HX.o HA.o.1 (by rw [HCL2.o,←HAT2.o];exact hat3) HE.o;rw [←HAT2.o] at this;exact this⟩
       case measure=>simp [intOf];omega
theorem Qyq:∀ (l:List Nat)(k:Nat),k<l.sum→∃ i,i<l.length∧(l.take i).sum≤k∧k<(l.take (i+1)).sum
 | [],k,h=>by simp at h
 | x::t,k,h=>by
  by_cases hk:k<x
  {exact ⟨0,Sm,Sm,by simpa using hk⟩};{simp only [List.sum_cons] at h;obtain ⟨i,h1,h2,h3⟩:=Qyq t (k-x) Oo;refine ⟨i+1,by simp;omega,?_,?_⟩;{simp only [List.take_succ_cons,List.sum_cons];omega};{simp only [List.take_succ_cons,List.sum_cons] at h3 ⊢;omega}}
structure Qmg (N:Qak) (ls:Lz) (k i:Nat) (l:Iz) (c:Nat) (x:Qap) (a b s t:Nat):Prop where
 hl:ls[i]?=some l
 hx:(Qaf N.ar l)[c]?=some x
 ha:x.1[a]?=some (s:Int)
 hb:x.2[b]?=some (t:Int)
 hk:k=Qim (Qah N.ar ls) (Qaf N.ar l) i c x a b
theorem ent_ex {N:Qak} {ls:Lz} {k:Nat} (hk:k<Qcy (Qah N.ar ls)):∃ i l c x a b s t,Qmg N ls k i l c x a b s t:=by
 obtain ⟨i,h1,h2,h3⟩:=Qyq _ _ hk;rw [←List.map_take] at h2 h3;rw [List.length_map] at h1;have hi:i<ls.length:=by simpa [Qah] using h1
 obtain ⟨l,hl⟩:∃ l,ls[i]?=some l:=⟨_,Zg hi⟩;have e1:=Qho (Qdb (ar:=N.ar) hl);unfold Qcy at e1;rw [e1] at h3;have h4:k-((List.take i (Qah N.ar ls)).map Qfe).sum<Qfe (Qaf N.ar l):=Oo
 obtain ⟨c,g1,g2,g3⟩:=Qyq _ _ h4;rw [←List.map_take] at g2 g3;rw [List.length_map] at g1;obtain ⟨x,hx⟩:∃ x,(Qaf N.ar l)[c]?=some x:=⟨_,Zg g1⟩;have e2:=Qhp hx;unfold Qfe at e2;rw [e2] at g3;obtain ⟨a,b,s,t,e,f1,f2⟩:=Quf hx (k:=k-((List.take i (Qah N.ar ls)).map Qfe).sum-((List.take c (Qaf N.ar l)).map szG).sum) Oo;exact ⟨i,l,c,x,a,b,s,t,hl,hx,f1,f2,by unfold Qim Qcy Qfe at *;omega⟩
theorem Qmg.lt {N:Qak} {ls:Lz} {k i c a b s t:Nat} {l:Iz} {x:Qap} (h:Qmg N ls k i l c x a b s t):k<Qcy ((Qah N.ar ls).take i)+Qfe ((Qaf N.ar l).take (c+1))∧k<Qcy ((Qah N.ar ls).take (i+1))∧k<Qcy (Qah N.ar ls)∧Qcy ((Qah N.ar ls).take i)+Qfe ((Qaf N.ar l).take c)≤k:=by have ha:=(Zs h.ha).1;have hb:=(Zs h.hb).1;have h1:=Qwy (gs:=Qah N.ar ls) (i:=i) h.hx ha hb;have h2:=Qmn (Qdb (ar:=N.ar) h.hl) h.hx ha hb;have h3:=Qkk (Qah N.ar ls) (i+1);rw [←h.hk] at h1 h2;exact ⟨h1,h2,Oo,by rw [h.hk];unfold Qim;omega⟩
theorem Qmg.inj {N:Qak} {ls:Lz} {k i c a b s t i' c' a' b' s' t':Nat} {l l':Iz} {x x':Qap} (h:Qmg N ls k i l c x a b s t) (g:Qmg N ls k i' l' c' x' a' b' s' t') :
 i=i'∧l=l'∧c=c'∧x=x'∧a=a'∧b=b'∧s=s'∧t=t':=by
 have h1:=h.lt;have g1:=g.lt
 have hi:i=i':=by
  rcases Nat.lt_trichotomy i i' with e|e|e
  {have:=Qkm (Qah N.ar ls) (show i+1≤i' from e);omega};{exact e};{have:=Qkm (Qah N.ar ls) (show i'+1≤i from e);omega}
 subst hi;have hl:l=l':=by have:=h.hl;rw [g.hl] at this;cases this;rfl
 subst hl
 have hc:c=c':=by
  rcases Nat.lt_trichotomy c c' with e|e|e
  {have:=Qko (Qaf N.ar l) (show c+1≤c' from e);omega};{exact e};{have:=Qko (Qaf N.ar l) (show c'+1≤c from e);omega}
 subst hc;have hx:x=x':=by have:=h.hx;rw [g.hx] at this;cases this;rfl
 subst hx;have hb:=(Zs h.hb).1;have hb':=(Zs g.hb).1;have e:a*x.2.length+b=a'*x.2.length+b':=by have e1:=h.hk;have e2:=g.hk;unfold Qim at e1 e2;omega
 have hab:a=a':=by
  rcases Nat.lt_trichotomy a a' with e3|e3|e3
  {have:(a+1)*x.2.length≤a'*x.2.length:=Nat.mul_le_mul_right _ e3;rw [Nat.add_mul,Nat.one_mul] at this;omega};{exact e3};{have:(a'+1)*x.2.length≤a*x.2.length:=Nat.mul_le_mul_right _ e3;rw [Nat.add_mul,Nat.one_mul] at this;omega}
 subst hab;have hbb:b=b':=Oo
 subst hbb;have hs:=h.ha;rw [g.ha] at hs;have ht:=h.hb;rw [g.hb] at ht;have hs2:(s':Int)=s:=Yv hs;have ht2:(t':Int)=t:=Yv ht;exact ⟨rfl,rfl,rfl,rfl,rfl,rfl,Oo,Oo⟩
def EntV (N:Qak) (ls:Lz) (k:Nat) (v:Int):Prop:=∃ i l c x a b s t,Qmg N ls k i l c x a b s t∧Qhc N (Qgd l c) s t v
def RowE (N:Qak) (ls:Lz) (cl:Iz):Prop:=∀ (k:Nat) (v:Int),cl[k]?=some v→EntV N ls k v
structure Qes (N:Qak) (ls:Lz) (cl:Iz):Prop where
 len:cl.length=Qcy (Qah N.ar ls)
 row:RowE N ls cl
theorem Qgy.all {N:Qak} {ls:Lz} {cl:Iz} (h:Qgy N ls ls.length 0 cl) (hl:cl.length=Qcy (Qah N.ar ls)):Qes N ls cl:=by refine ⟨hl,fun k v hk=>?_⟩;obtain ⟨i,l,c,x,a,b,s,t,he⟩:=ent_ex (k:=k) (by rw [←hl];exact (Zs hk).1);refine ⟨i,l,c,x,a,b,s,t,he,?_⟩;have h1:=h i l c x a b s t (.inl (Zs he.hl).1) he.hl he.hx he.ha he.hb;rw [←he.hk,Ya,hk] at h1;exact h1
theorem Qes.at_ {N:Qak} {ls:Lz} {cl:Iz} (h:Qes N ls cl) {k i c a b s t:Nat} {l:Iz} {x:Qap} (he:Qmg N ls k i l c x a b s t):∃ v,cl[k]?=some v∧Qhc N (Qgd l c) s t v:=by obtain ⟨v,hv⟩:∃ v,cl[k]?=some v:=⟨_,Zg (by rw [h.len];exact he.lt.2.2.1)⟩;obtain ⟨i',l',c',x',a',b',s',t',g1,g2⟩:=h.row k v hv;obtain ⟨rfl,rfl,rfl,rfl,rfl,rfl,rfl,rfl⟩:=he.inj g1;exact ⟨v,hv,g2⟩
def StW (N:Qak):Qbu:=fun a b d=>∃ y,N.ar[b]?=some y∧Qal N a b≠1152921504606846976∧y.2.2≠1152921504606846976∧d=Qal N a b+y.2.2
theorem StA.all {N:Qak}{mk:List Bool}{a b:Nat}{d:Int}(h:StA N mk a b d):StW N a b d:=by obtain ⟨y,h1,h2,h3,_,_,h4⟩:=h;exact ⟨y,h1,h2,h3,h4⟩
def Qgg (ls:Lz) (i:Nat) (v:Int) (av:Iz):Prop:=∃ l,ls[i]?=some l∧∀ x∈av,Qad l v≠Qad l x
noncomputable def Qxo (ls:Lz) (v:Int) (av:Iz):Nat→Nat
 | 0=>0
 | n+1=>by classical exact if Qgg ls n v av then n+1 else Qxo ls v av n
noncomputable def Qlw (ls:Lz) (v:Int) (av:Iz):Nat:=Qxo ls v av ls.length
section
variable {ls:Lz} {v:Int} {av:Iz}
theorem Rad:∀ n j,Qxo ls v av n=j+1→Qgg ls j v av
 | 0,j,h=>by unfold Qxo at h;omega
 | n+1,j,h=>by
  unfold Qxo at h;split at h
  {rename_i h1;(obtain rfl:n=j:=Oo);exact h1};{exact Rad n j h}
theorem Rae:∀ n j,j<n→Qgg ls j v av→j+1≤Qxo ls v av n
 | 0,j,h,_=>by omega
 | n+1,j,h,h1=>by unfold Qxo;split;{omega};{rename_i h2;refine Rae n j ?_ h1;by_cases e:j=n;{subst e;exact absurd h1 h2};{omega}}
theorem Qfc {j:Nat}(h:Qlw ls v av=j+1):Qgg ls j v av:=Rad _ _ h
theorem Qsg {j:Nat}(h:Qgg ls j v av):j+1≤Qlw ls v av:=by obtain ⟨l,hl,h1⟩:=id h;exact Rae _ _ (Zs hl).1 ⟨l,hl,h1⟩
end
theorem Qsv {n:Nat} {ls:Lz} (hP:Qbt n ls) {i:Nat} {l:Iz} (hi:ls[i]?=some l) {u v:Nat} (hu:u<n) (hv:v<n) (h:Qad l (u:Int)=Qad l (v:Int)):∀ (k:Nat) (l':Iz),ls[i+k]?=some l'→Qad l' (u:Int)=Qad l' (v:Int)
 | 0,l',hl=>by
  rw [Nat.add_zero,hi] at hl;cases hl;exact h
 | k+1,l',hl=>by
  obtain ⟨m,hm⟩:∃ m,ls[i+k]?=some m:=⟨_,Zg (by have:=(Zs hl).1;omega)⟩;have ih:=Qsv hP hi hu hv h k m hm;apply Classical.byContradiction;intro hne;exact Qgh (hP.nest (i+k) m l' hm hl) (hP.lvl l' (Zm hl)).len (hP.lvl m (Zm hm)).len hu hv hne ih
def HSt (N:Qak) (ls:Lz) (av:Iz):Qbu:=fun a b d =>
 (Qlw ls (toV N a) av=0∧StW N a b d) ∨
 ∃ j l y z v,Qlw ls (toV N a) av=j+1∧ls[j]?=some l∧N.ar[a]?=some y∧N.ar[b]?=some z∧Qad l y.1≠Qad l y.2.1∧Qad l z.1=Qad l y.2.1∧Qad l z.2.1≠Qad l y.2.1∧z.2.2≠1152921504606846976∧Qhc N (Qgd l (Qad l y.2.1)) a b v∧v≠1152921504606846976∧d=v+z.2.2
section
variable {N:Qak} {ls:Lz} {av:Iz} {s t:Nat}
theorem StW.ends {a b:Nat}{d:Int}(h:StW N a b d):∃ x y,N.ar[a]?=some x∧N.ar[b]?=some y∧x.2.1=y.1∧Qal N a b≠1152921504606846976∧y.2.2≠1152921504606846976∧d=Qal N a b+y.2.2:=by obtain ⟨y,hy,h1,h2,h3⟩:=h;obtain ⟨x,y',hx,hy',e⟩:=Qby h1;rw [hy] at hy';cases hy';exact ⟨x,y,hx,hy,e,h1,h2,h3⟩
theorem HSt.up {a b:Nat}{d:Int}(h:HSt N ls av a b d):Rch (StW N) a b d:=by
 rcases h with ⟨_,h⟩|⟨j,l,y,z,v,_,_,_,hz,_,_,_,h7,h8,h9,rfl⟩
 {have:=Rch.start.step h;rwa [Int.zero_add] at this};{(rcases h8 with ⟨⟨p,c,e,g1,g2,rfl⟩,_⟩|⟨g,_⟩);{have:=(g1.mono (fun _ _ _ h=>h.all)).step (show StW N p b (e+z.2.2) from ⟨z,hz,g2.1,h7,by rw [g2.2]⟩);rwa [←Int.add_assoc] at this};{exact absurd g h9}}
theorem Rhh {p:Nat}{c:Int} (h:Rch (HSt N ls av) s p c):Rch (StW N) s p c:=by
 induction h with
 | start=>exact .start
 | step _ h2 ih=>exact ih.trans h2.up
theorem Qjp (hok:Qar N){a:Nat}{x:Tri} (h:N.ar[a]?=some x):∃ u v:Nat,x.1=(u:Int)∧x.2.1=(v:Int)∧u<N.vs.length∧v<N.vs.length:=by have o:=hok.arcs x (Zm h);have a0:=o.f0;have a1:=o.f1;have b0:=o.g0;have b1:=o.g1;exact ⟨x.1.toNat,x.2.1.toNat,Oo,Oo,Oo,Oo⟩
def Rau (N:Qak) (ls:Lz) (av:Iz) (a:Nat):Prop:=∀ j l y,Qlw ls (toV N a) av=j+1→ls[j]?=some l→N.ar[a]?=some y→Qad l y.1≠Qad l y.2.1
theorem Qqi (hs:toV N s∈av):Rau N ls av s:=fun j l y h hl hy=>by obtain ⟨l',hl',h1⟩:=Qfc h;exact absurd rfl (h1 _ hs)
theorem Qug {a b:Nat}{x y:Tri} (hx:N.ar[a]?=some x) (hy:N.ar[b]?=some y) (e:x.2.1=y.1) (h0:Qlw ls (toV N a) av=0):Rau N ls av b:=fun j l y' h hl hy' hc=>by rw [hy] at hy';cases hy';obtain ⟨l',hl',h1⟩:=Qfc h;rw [hl] at hl';cases hl';rw [(Qbw hy).1] at h1;have:=Qsg (ls:=ls) (v:=toV N a) (av:=av) (j:=j) ⟨l,hl,fun v hv=>by rw [(Qbw hx).1,e,hc];exact h1 v hv⟩;omega
theorem Quh (hok:Qar N)(hP:Qbt N.vs.length ls){a b i:Nat}{l:Iz}{y z:Tri} (hy:N.ar[a]?=some y) (hz:N.ar[b]?=some z) (hi:Qlw ls (toV N a) av=i+1) (hl:ls[i]?=some l)
 (h1:Qad l z.1=Qad l y.2.1) (h2:Qad l z.2.1≠Qad l y.2.1):Rau N ls av b:=fun j l' z' hj hl' hz' hc=>by
 rw [hz] at hz';cases hz';obtain ⟨l'',hl'',g1⟩:=Qfc hj;rw [hl'] at hl'';cases hl'';rw [(Qbw hz).1] at g1;obtain ⟨u,v,e1,e2,hu,hv⟩:=Qjp hok hz;obtain ⟨_,v',_,e3,_,hv'⟩:=Qjp hok hy;rw [e1,e2] at hc;rw [e2] at g1;rw [e1,e3] at h1;rw [e2,e3] at h2;rcases Nat.lt_or_ge i j with hij|hij
 {have e4:=Qsv hP hl hu hv' h1 (j-i) l' (by rw [show i+(j-i)=j by omega];exact hl');have:=Qsg (ls:=ls) (v:=toV N a) (av:=av) (j:=j) ⟨l',hl',fun v hv=>by rw [(Qbw hy).1,e3,←e4,hc];exact g1 v hv⟩;omega};{have e4:=Qsv hP hl' hu hv hc (i-j) l (by rw [show j+(i-j)=i by omega];exact hl);exact h2 (by rw [←e4];exact h1)}
theorem ent_le (hok:Qar N){mk:List Bool}{a p q:Nat}{c e v:Int} (hr:Rch (StA N mk) a p c) (ho:OuA N p q e) (hv:Qhc N mk a q v):v≤c+e∧v≠1152921504606846976:=by
 rcases hv with ⟨⟨p',c1,e',k1,k2,rfl⟩,k3⟩|⟨_,k3⟩
 {refine ⟨k3 _ ⟨p,c,e,hr,ho,rfl⟩,?_⟩;obtain ⟨c2,h10,h11⟩:=Qjg hok p' c1 k1;have b2:=OuA.bd hok k2;have:=k3 _ ⟨p',c2,e',h10,k2,rfl⟩;unfold MB at h11;omega};{exact absurd ⟨p,c,e,hr,ho,rfl⟩ (k3 _)}
theorem Qvf (hok:Qar N)(hP:Qbt N.vs.length ls) (hE:∀ (j:Nat) (l:Iz) (a b:Nat) (y z:Tri),ls[j]?=some l→N.ar[a]?=some y→N.ar[b]?=some z→Qad l y.1≠Qad l y.2.1→Qad l z.1=Qad l y.2.1→Qad l z.2.1≠Qad l y.2.1→∃ v,Qhc N (Qgd l (Qad l y.2.1)) a b v)
 {p:Nat} {c:Int} (h:Rch (StW N) s p c) (hs:∃ x,N.ar[s]?=some x) (hav:toV N s∈av):∃ a c1 c2,Rch (HSt N ls av) s a c1∧Rau N ls av a∧c1+c2≤c ∧
  ((Qlw ls (toV N a) av=0∧p=a∧c2=0)∨∃ j l y,Qlw ls (toV N a) av=j+1∧ls[j]?=some l∧N.ar[a]?=some y∧Rch (StA N (Qgd l (Qad l y.2.1))) a p c2):=by
 -- an arc that the search comes to, whatever its level
 have fresh:∀ (q:Nat) (e:Int),Rch (HSt N ls av) s q e→Rau N ls av q→(∃ x,N.ar[q]?=some x)→∀ f,e≤f→∃ a c1 c2,Rch (HSt N ls av) s a c1∧Rau N ls av a∧c1+c2≤f ∧
  ((Qlw ls (toV N a) av=0∧q=a∧c2=0)∨∃ j l y,Qlw ls (toV N a) av=j+1∧ls[j]?=some l∧N.ar[a]?=some y∧Rch (StA N (Qgd l (Qad l y.2.1))) a q c2):=by
  intro q e hq hg ⟨x,hx⟩ f hf;refine ⟨q,e,0,hq,hg,Oo,?_⟩
  cases hlv:Qlw ls (toV N q) av with
  | zero=>exact .inl ⟨rfl,rfl,rfl⟩
  | succ j =>
   obtain ⟨l,hl,_⟩:=Qfc hlv;exact .inr ⟨j,l,x,rfl,hl,hx,.start⟩
 induction h with
 | start=>exact fresh s 0 .start (Qqi hav) hs 0 (Int.le_refl _)
 | @step p q c d h1 h2 ih =>
  obtain ⟨a,c1,c2,g1,g2,g3,g4⟩:=ih;obtain ⟨x,w,hx,hw,e,k1,k2,rfl⟩:=h2.ends;rcases g4 with ⟨h0,rfl,rfl⟩|⟨j,l,y,hj,hl,hy,hr⟩
  {exact fresh q (c1+(Qal N p q+w.2.2)) (g1.step (.inl ⟨h0,h2⟩)) (Qug hx hw e h0) ⟨w,hw⟩ _ Oo}
  · have hlen:=(hP.lvl l (Zm hl)).len
    -- where p ends: within the cell
    have hpc:Qad l x.2.1=Qad l y.2.1:=by
     cases hr with
     | start =>rw [hx] at hy;cases hy;rfl
     | step _ h4 =>obtain ⟨_,x',_,hx',_,_,_,_,h5,_⟩:=(Qdq hok hlen).1 h4;rw [hx] at hx';cases hx';exact h5
    by_cases hin:Qad l w.2.1=Qad l y.2.1;{refine ⟨a,c1,c2+(Qal N p q+w.2.2),g1,g2,Oo,.inr ⟨j,l,y,hj,hl,hy,hr.step ((Qdq hok hlen).2 ⟨x,w,hx,hw,e,k1,k2,?_,hin,rfl⟩)⟩⟩;rw [←e];exact hpc};{(have hfr:Qad l w.1=Qad l y.2.1:=by rw [←e];exact hpc);have hen:=g2 j l y hj hl hy;obtain ⟨v,hv⟩:=hE j l a q y w hl hy hw hen hfr hin;obtain ⟨hle,hne⟩:=ent_le hok hr ⟨k1,rfl⟩ hv;exact fresh q (c1+(v+w.2.2)) (g1.step (.inr ⟨j,l,y,w,v,hj,hl,hy,hw,hen,hfr,hin,k2,hv,hne,rfl⟩)) (Quh hok hP hy hw hj hl hfr hin) ⟨w,hw⟩ _ Oo}
theorem Rcc (hok:Qar N)(hP:Qbt N.vs.length ls) (hE:∀ (j:Nat) (l:Iz) (a b:Nat) (y z:Tri),ls[j]?=some l→N.ar[a]?=some y→N.ar[b]?=some z→Qad l y.1≠Qad l y.2.1→Qad l z.1=Qad l y.2.1→Qad l z.2.1≠Qad l y.2.1→∃ v,Qhc N (Qgd l (Qad l y.2.1)) a b v)
 (hs:∃ x,N.ar[s]?=some x) (hav:toV N s∈av) (hat:frV N t∈av) {v:Int} (h:Lst (Rch (HSt N ls av) s t) v):Lst (Rch (StW N) s t) v:=by
 refine h.conv (fun c hc=>⟨c,Rhh hc,Int.le_refl _⟩) (fun c hc=>?_);obtain ⟨a,c1,c2,g1,g2,g3,g4⟩:=Qvf hok hP hE hc hs hav;rcases g4 with ⟨_,rfl,rfl⟩|⟨j,l,y,hj,hl,hy,hr⟩
 {exact ⟨c1,g1,Oo⟩}
 · have hlen:=(hP.lvl l (Zm hl)).len
   cases hr with
   | start=>exact ⟨c1,g1,Oo⟩
   | step _ h4 =>obtain ⟨_,w,_,hw,_,_,_,h5,_,_⟩:=(Qdq hok hlen).1 h4;obtain ⟨l',hl',h6⟩:=Qfc hj;rw [hl] at hl';cases hl';have h6:=h6 _ hat;rw [(Qbw hy).1,(Qbw hw).2.1] at h6;exact absurd h5.symm h6
end
def dAt (d:Iz)(a:Nat):Int:=d.getD a 1152921504606846976
theorem Qfi {d:Iz}{a:Nat}{v:Int} (h:d[a]?=some v):dAt d a=v:=by unfold dAt;rw [Ya,h];rfl
section
variable {N:Qak} {mk:List Bool} {s t:Nat} {d:Iz} {best:Int}
end
def Qge (N:Qak)(a:Nat):Iz:=match N.ar[a]? with
 | some x=>(idx (·.1) N.ar x.2.1).filter (fun b=>Qal N a b.toNat != 1152921504606846976)
 | none=>[]
def Qwh (N:Qak)(a:Nat):Iz:=(Qge N a).map (fun b=>Qal N a b.toNat)
def Qqq (N:Qak):Lz:=(List.range N.ar.length).map (Qge N)
def Qqy (N:Qak):Lz:=(List.range N.ar.length).map (Qwh N)
theorem Rci {N:Qak}{a:Nat}(h:a<N.ar.length):(Qqq N)[a]?=some (Qge N a):=by unfold Qqq;rw [Yt,List.getElem?_range h];rfl
theorem Rdb {N:Qak}{a:Nat}(h:a<N.ar.length):(Qqy N)[a]?=some (Qwh N a):=by unfold Qqy;rw [Yt,List.getElem?_range h];rfl
theorem Qxr {N:Qak}{a:Nat}{z:Int}:z∈Qge N a↔∃ b:Nat,z=(b:Int)∧Qal N a b≠1152921504606846976:=by
 unfold Qge
 cases hx:N.ar[a]? with
 | none =>simp only [List.not_mem_nil,false_iff,not_exists,not_and];rintro b rfl h;obtain ⟨x,_,e,_⟩:=Qby h;rw [hx] at e;cases e
 | some x =>simp only [List.mem_filter,Qfn];constructor;{rintro ⟨⟨b,y,rfl,_,_⟩,h2⟩;exact ⟨b,rfl,by simpa using h2⟩};{rintro ⟨b,rfl,h⟩;obtain ⟨x',y,e1,e2,e3⟩:=Qby h;rw [hx] at e1;cases e1;exact ⟨⟨b,y,rfl,e2,e3.symm⟩,by simpa using h⟩}
theorem nxt_len (N:Qak)(a:Nat):(Qge N a).length≤N.ar.length:=by
 unfold Qge
 cases hx:N.ar[a]? with
 | none=>simp
 | some x =>have h:=Qhi (·.1) N.ar N.ar.length x.2.1;rw [List.take_length] at h;exact Yx (List.length_filter_le _ _) h
theorem trn_len (N:Qak)(a:Nat):(Qwh N a).length=(Qge N a).length:=by simp [Qwh]
theorem nxt_at {N:Qak}{a k:Nat} (h:k<(Qge N a).length):∃ b:Nat,(Qge N a)[k]?=some (b:Int)∧(Qwh N a)[k]?=some (Qal N a b)∧Qal N a b≠1152921504606846976∧b<N.ar.length:=by obtain ⟨z,hz⟩:∃ z,(Qge N a)[k]?=some z:=⟨_,Zg h⟩;obtain ⟨b,rfl,hb⟩:=Qxr.1 (Zm hz);obtain ⟨_,y,_,e,_⟩:=Qby hb;refine ⟨b,hz,?_,hb,(Zs e).1⟩;unfold Qwh;rw [Yt,hz];rfl
theorem Rag (n:Nat)(w:World)(hn:n≤1000000):Calls prog 115 #[.int .i64 n] w fun e w'=>e=.returned (.slice (some ⟨w.heap.size,0,none⟩) n n)∧Blk w' w.heap.size 2 (Qbr (List.replicate n 1152921504606846976))∧Bw w w':=by
 have hmk:=Qde n Oo;go_enter func115,ntmps115
 go_wp2_with fail
 (refine Qai ?_;intro w1 hw1);have hb1:Bw w w1:=by rw [hw1];exact Qag
 have hd1:Blk w1 w.heap.size 2 (Qbr (List.replicate 0 1152921504606846976 ++List.replicate (n-0) 0)):=by{rw [hw1,Nat.sub_zero,List.replicate_zero,List.nil_append,←Qbx];exact Blk.new _ _ _};clear hw1;go_loopw [4] (fun q W=>∃ i:Nat,q=.int .i64 i∧i≤n∧Bw w W∧Blk W w.heap.size 2 (Qbr (List.replicate i 1152921504606846976 ++List.replicate (n-i) 0))) (fun q _=>n-(intOf q).toNat)
 case atStart=>exact ⟨0,rfl,Nat.zero_le _,hb1,hd1⟩
 case round =>
  clear hb1 hd1;obtain ⟨i,rfl,hin,hb,hd⟩:=hrel;by_cases hlt:i<n
  {obtain ⟨v0,hv0⟩:∃ v0,(List.replicate i (1152921504606846976:Int) ++List.replicate (n-i) 0)[i]?=some v0:=⟨_,Zg (by simp;omega)⟩;have c0:=hd.cellI hv0;have f0:=hd.frozen i;have HD:=Zh (hd.setI (Rai n i hlt 1152921504606846976 0));have HB:=Zh (show Bw w (wr.setCell ⟨w.heap.size,i,none⟩ (.int .i64 1152921504606846976)) from Zi hb (Zn _));(have i1:0≤(i:Int):=Oo);(have i2:(i:Int)<n:=Oo);clear hb hd hv0;(go_wp2_with fail);go_roundw;(case rel=>exact ⟨i+1,by go_num,Oo,HB.o,HD.o⟩);case measure=>simp [intOf];omega};{(obtain rfl:n=i:=Oo);(rw [Yy,List.replicate_zero,List.append_nil] at hd;have i2:¬((n:Int)<n):=Oo);(go_wp2_with fail);go_ret;exact ⟨rfl,hd,hb⟩}
def Qdg (x y:Int):Int:=if x+y > 1152921504606846976 then 1152921504606846976 else x+y
theorem Qlm (x:Int)(w:World)(h0:0≤x)(h1:x≤1152921504606846976):Calls prog 63 #[.int .i64 x] w fun e w'=>e=.returned (.int .i64 x)∧w=w':=by
 have i1:¬(x<0):=Oo
 have i2:¬(x > 1152921504606846976):=Oo
 go_enter func63,ntmps63
 exact Kdp
theorem Qyk (x:Int)(w:World)(h1:x > 1152921504606846976):Calls prog 63 #[.int .i64 x] w fun e w'=>e=.returned (.int .i64 1152921504606846976)∧w=w':=by
 have i1:¬(x<0):=Oo
 go_enter func63,ntmps63
 exact Kdp
theorem Qvg (x y:Int)(w:World)(hx:0≤x∧x≤1152921504606846976)(hy:0≤y∧y≤1152921504606846976):Calls prog 31 #[.int .i64 x,.int .i64 y] w fun e w'=>e=.returned (.int .i64 (Qdg x y))∧w=w':=by
 have HX:=Zh (Qlm x w hx.1 hx.2);have HY:=Zh (Qlm y w hy.1 hy.2)
 have HZ:=Zh (show Calls prog 63 #[.int .i64 (x+y)] w fun e w'=>e=.returned (.int .i64 (Qdg x y))∧w=w' by
  unfold Qdg
  by_cases h:x+y > 1152921504606846976
  · rw [if_pos h];exact Qyk _ w h
  · rw [if_neg h];exact Qlm _ w Oo Oo)
 have e1:IntKind.i64.wrap (x+y)=x+y:=IntWalk.i64_in _ Oo;clear hx hy;go_enter func31,ntmps31
 exact Kat
theorem Qet {x y:Int}(hx:0≤x)(hy:0≤y):0≤Qdg x y∧Qdg x y≤1152921504606846976∧Qdg x y≤x+y∧(Qdg x y<1152921504606846976→Qdg x y=x+y):=by unfold Qdg;split <;> omega
def Rcz (d:Iz):Nat:=(d.map Int.toNat).sum
theorem Ral:∀ (d:Iz)(b:Nat)(v x:Int),d[b]?=some x→0≤v→v<x→Rcz (d.set b v)<Rcz d
 | [],b,v,x,h,_,_=>by simp at h
 | z::t,0,v,x,h,h1,h2=>by
  simp at h;subst h;simp only [Rcz,Yj,List.map_cons,List.sum_cons];omega
 | z::t,b+1,v,x,h,h1,h2=>by
  have:=Ral t b v x (by simpa using h) h1 h2;simp only [Rcz,Yk,List.map_cons,List.sum_cons] at this ⊢;omega
section
variable {N:Qak} {mk:List Bool} {s t:Nat} {d:Iz} {best:Int}
theorem Res {d:Iz}{b q:Nat}{v:Int}(hb:b<d.length):dAt (d.set b v) q=if b=q then v else dAt d q:=by unfold dAt;simp only [Ya];by_cases e:b=q;{subst e;rw [if_pos rfl,Yg hb];rfl};{rw [if_neg e,Yh e]}
def rowOf (V:World)(D:Nat):Iz:=match V.heap[D]? with
 | some (.cells cs _ _)=>cs.toList.map (fun v=>match v with | .int _ x=>x | _=>0)
 | _=>[]
theorem Qvj {V:World}{D:Nat}{ty:TypeId}{l:Iz} (h:Blk V D ty (Qbr l)):rowOf V D=l:=by unfold rowOf;rw [show V.heap[D]?=_ from h];simp only [Qbr,List.map_map];exact List.map_id l
end
