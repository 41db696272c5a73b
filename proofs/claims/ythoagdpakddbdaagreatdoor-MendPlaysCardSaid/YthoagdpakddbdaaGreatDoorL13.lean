/- Parts of the proof: One, All, Aq, ChP, MdP, MdQ. -/
import Derived.Test.YthoagdpakddbdaaGreatDoorL12
import Derived.Laws.CopyOwn
namespace Go.Proofs.YthoagdpakddbdaaGreatDoor
open Go.RowKit Go.Proofs.Tryz
attribute [local go_sem ↓] Go.wp_at_zero Go.wp_at_succ
def OneR (w:World)(N:Qai)(l:List Int)(c:Nat)(x:Qak)(e:Ending)(w':World):Prop :=
 ∃ (A:Option Addr) (cp:Nat) (ces:List Int),e=.returned (.slice A (szG x) cp)∧RdI w' A (szG x) ces∧(∀ (a b s t:Nat),x.1[a]?=some (s:Int)→x.2[b]?=some (t:Int)→Qgr N (Qcw l c) s t (ces.getD (a*x.2.length+b) 0))∧Below w.heap.size w w'
def LowE (N:Qai) (ls:List (List Int)) (i:Nat) (costs:List Int):Prop:=∀ (lb:List Int) (q:Nat) (y:Qak) (a b s t:Nat),ls[i]?=some lb→(gateRow N.ar lb)[q]?=some y→y.1[a]?=some (s:Int)→y.2[b]?=some (t:Int)→Qgr N (Qcw lb q) s t (costs.getD (Qhn (gatesOf N.ar ls) (gateRow N.ar lb) i q y a b) 0)
theorem LowE.ex {N:Qai}(hok:Qav N) {ls:List (List Int)} {lb:List Int} {j:Nat} {costs:List Int} (h:LowE N ls j costs) (hb:ls[j]?=some lb) (hBv:Qfj N.vs.length lb) {l:List Int} {c:Nat} :
 ∀ (a m:Nat) (y z:Tri),Qem N l lb c a→N.ar[a]?=some y→N.ar[m]?=some z→Qah lb z.1=Qah lb y.2.1→Qah lb z.2.1≠Qah lb y.2.1→∃ v,Qgr N (Qcw lb (Qah lb y.2.1)) a m v:=fun a m y z hk hy hz h1 h2=>by
 obtain ⟨y',hy',k1,_⟩:=hk;rw [hy] at hy'
 cases hy'
 have ho:=hok.arcs y (Zm hy);have o0:=ho.g0;have o1:=ho.g1;obtain ⟨u,hu⟩:∃ u:Nat,y.2.1=(u:Int):=⟨y.2.1.toNat,by omega⟩;have e1:=Qcz (l:=lb) (v:=u) (by rw [hBv.len];omega);rw [←hu] at e1;obtain ⟨q,hq,g,hg⟩:=Qil (ar:=N.ar) hBv (Zm e1);rw [hq] at h1 h2 ⊢;obtain ⟨k,hk⟩:=Yr ((Qdm hg).2 ⟨y,hy,by rw [←hq];exact k1,hq⟩);obtain ⟨b,hb'⟩:=Yr ((Qci hg).2 ⟨z,hz,h1,h2⟩);exact ⟨_,h lb q g k b a m hb hg hk hb'⟩
set_option maxHeartbeats 2000000 in
theorem one_ok (w:World)(g o i c:Nat)(N:Qai) (ls:List (List Int)) (l:List Int) (x:Qak) (CA:Option Addr) (NC cC:Nat) (costs:List Int) (hg:Qgm w g N) (hok:Qav N) (ho:Qfm w o N.ar ls) (hP:Qbw N.vs.length ls) (hl:ls[i]?=some l) (hx:(gateRow N.ar l)[c]?=some x)
 (hc:RdI w CA NC costs) (hNC:Qbr (gatesOf N.ar ls)≤NC) (hNC2:NC≤1000000000) (hcost:∀ z∈costs,0≤z∧z≤1152921504606846976) (hlow:∀ j,i=j+1→LowE N ls j costs) :
 Calls prog 48 #[.pointer (some ⟨g,0,none⟩),.pointer (some ⟨o,0,none⟩),.int .i64 ((i:Int)+1),.int .i64 c,.slice CA NC cC] w (OneR w N l c x):=by
 have hla:=hok.la;have hL6:ls.length≤6:=hP.l6;have hi5:(i:Int)≤5:=by have:=(Zs hl).1;omega
 have hLv:=hP.lvl l (Zm hl);have hcM:c<(Qaj l).toNat:=by rw [←Qaq N.ar l];exact (Zs hx).1
 have hcm:(c:Int)<((Qaj l).toNat:Int):=by omega
 have HCE:=Zh (Qfp o i _ N.ar ls l w ho hl (by omega) rfl);have HGT:=Zh (Qko o i c N.ar ls l x w ho hl (by omega) hx (by omega));have HG:=Zh hg;have HO:=Zh ho;have HP:=Zh hP;have HL:=Zh hl;have HX:=Zh hx;have HC:=Zh hc;have HCO:=Zh hcost;have HLOW:=Zh hlow;have HLL:=Zh hLv.len;have hgx:=Qbn hx;obtain ⟨MM,hMM⟩:∃ MM,MM=(Qaj l).toNat:=⟨_,rfl⟩;rw [←hMM] at HCE hcm;clear hg ho hP hl hx hc hcost hlow hLv hcM hMM
 go_enter func48,ntmps48
 go_wp2_with fail
 with_reducible refine HCE.out.mono ?_
 rintro e w' ⟨rfl,rfl⟩
 go_wp2_with fail
 with_reducible refine HGT.out.mono ?_
 rintro e w1 ⟨B1,m1,d1,B2,m2,d2,rfl,ho1,ho2,hb1⟩;have hm1:x.1.length=m1:=by have:=ho1.1;simpa [Qad] using this
 have hm2:x.2.length=m2:=by have:=ho2.1;simpa [Qad] using this
 have HO1:=Zh ho1;have HO2:=Zh ho2;have HB1:=Zh hb1;clear ho1 ho2 hb1
 by_cases h10:m1=0
 · have HE:=Zh h10
   subst h10
   go_wp2_with fail
   go_ret
   refine ⟨none,0,[],by unfold szG;rw [hm1,Nat.zero_mul];rfl,⟨by unfold szG;rw [hm1,Nat.zero_mul];rfl,fun i x h=>by simp at h⟩,fun a b s t h=>?_,(HB1.out.trans ((Zr _ _).alloc (Zn _) _ |>.mono HB1.out.size))⟩;have:=(Zs h).1;omega
 · have e10:((m1:Int) == 0)=false:=by simp;omega
   by_cases h20:m2=0
   · have HE:=Zh h20
     subst h20
     go_wp2_with fail
     go_ret
     refine ⟨none,0,[],by unfold szG;rw [hm2,Nat.mul_zero];rfl,⟨by unfold szG;rw [hm2,Nat.mul_zero];rfl,fun i x h=>by simp at h⟩,fun a b s t _ h=>?_,(HB1.out.trans ((Zr _ _).alloc (Zn _) _ |>.mono HB1.out.size))⟩;have:=(Zs h).1;omega
   · have e20:((m2:Int) == 0)=false:=by simp;omega
     rcases Nat.eq_zero_or_pos i with hi0|hi0
     · subst hi0
       go_wp2_with fail
       (refine Qag ?_;intro w2 hw2)
       have hb2:Below w1.heap.size w1 w2:=by rw [hw2];exact Qaf
       have hX2:Blk w2 w1.heap.size 105 #[.slice B1 m1 d1,.slice B2 m2 d2]:=by rw [hw2];exact Blk.new _ _ _
       clear hw2;have x1:w2.cell? ⟨w1.heap.size,1,none⟩=some (.slice B2 m2 d2):=Zq hX2;have HB2:=Zh (Zb HB1.out hb2);have HBA:=Zh (fun V (hV:Below w2.heap.size w2 V)=>Qzg V g N l c x B1 B2 m1 m2 d1 d2 (HG.out.below (Zb (Zb HB1.out hb2) hV)) hok HLL.out HX.out ((HO1.out.below hb2).rds.rdI.below hV) ((HO2.out.below hb2).rds.rdI.below hV));have HSX:=Zh (show ∀ V,Blk V w1.heap.size 105 #[.slice B1 m1 d1,.slice B2 m2 d2]→V.cell? ⟨w1.heap.size,0,none⟩=some (.slice B1 m1 d1)∧V.cell? ⟨w1.heap.size,1,none⟩=some (.slice B2 m2 d2) from fun V hV=>⟨hV.two.1,hV.two.2.1⟩)
       clear hb2;refine wp_region_held_drew (S:=fun V=>Blk V w1.heap.size 105 #[.slice B1 m1 d1,.slice B2 m2 d2]) (by kernel_rfl) hX2.drew (fun _=>?_);refine tz 0 37 ?_;refine tz 1 38 ?_;refine tz 3 40 ?_;refine tz 4 41 ?_;refine tz 5 42 ?_;refine Zk 2 (fun K hK=>?_);go_simp;with_reducible refine (HBA.out _ (Zr _ _).drew).mono ?_
       rintro e w3 ⟨SA,sc,c9,arcs,L,rfl,hS,hNx,hFA,hFl,hnil,hnd,har,hins,hn1,hb3⟩;have hb23:Below w2.heap.size w2 w3:=(Zr _ _).drew.trans hb3;have hX3:=hX2.below hb23 hX2.lt;go_simp;refine hK.out _ _ hX3 (fun _=>?_);clear hK K;refine Zk 6 (fun K hK=>?_);go_simp
       have HLE:=Zh (Qsl w3 arcs.length m1 sc m2 _ SA _ (List.range m1) L MB 4294967296 hS (fun s hs=>by have:=List.mem_range.1 hs;omega) har (by omega) (by omega) (by omega) hNx hFl hnil (fun s hs p d hr=>by
        have hs':=List.mem_range.1 hs;exact hFA.bound hok HLL.out HX.out (Zg (by omega)) hnd p d hr) (by unfold MB;omega) (by omega) (by unfold MB;omega))
       have HFA:=Zh hFA;have HINS:=Zh hins;have HB3:=Zh (Zb HB2.out hb23);clear hS hNx hFA hFl hnil hnd har hins hn1 hb3 hb23;with_reducible refine HLE.out.mono ?_
       rintro e w4 ⟨bb,ces,rfl,hbb,hcl,hlst,hbs,hb4⟩;have hX4:=hX3.below hb4 hX3.lt;have HBB:=Zh hbb;have HCL:=Zh hcl;have HLST:=Zh hlst;have HB4:=Zh (Zb HB3.out hb4);clear hbb hcl hlst hbs hb4;go_simp;refine hK.out _ _ hX4 (fun _=>?_);clear hK K;refine tz 7 10 ?_;refine Zd ?_
       go_wp2_with fail
       go_ret
       have hsz:szG x=m1*m2:=by unfold szG;rw [hm1,hm2]
       refine ⟨some ⟨bb,0,none⟩,m1*m2,ces,by rw [hsz];rfl,by rw [hsz];exact HBB.out.rdI HCL.out,fun a b s t ha hb=>?_,HB4.out⟩;have ha':=(Zs ha).1;have hb':=(Zs hb).1;rw [hm2];exact HFA.out.entry hok HLL.out HX.out (HINS.out a s ha) hb (HLST.out a a b (by rw [List.getElem?_range (by omega)]) (by omega))
     · obtain ⟨j,rfl⟩:∃ j,i=j+1:=⟨i-1,by omega⟩
       obtain ⟨lb,hlb⟩:∃ lb,ls[j]?=some lb:=⟨_,Zg (by have:=(Zs HL.out).1;omega)⟩;have hE:=HLOW.out j rfl;have hBv:=HP.out.lvl lb (Zm hlb);have hnest:=HP.out.nest j lb l hlb HL.out
       have hbt:((x.2.getD 0 0).toNat:Int)∈x.2:=by
        obtain ⟨z,hz⟩:∃ z,x.2[0]?=some z:=⟨_,Zg (by omega)⟩;obtain ⟨m,rfl⟩:=Qey HX.out hz;rw [Ya,hz];exact Zm hz
       have HEX:=Zh (hE.ex hok hlb hBv (l:=l) (c:=c));have e30:((j:Int)+1+1 == 1)=false:=by simp;omega
       have HLB:=Zh hlb;have HEE:=Zh hE;have HBV:=Zh hBv;have HNE:=Zh hnest;have HBT:=Zh hbt;clear hlb hE hBv hnest hbt
       go_wp2_with fail
       (refine Qag ?_;intro w2 hw2)
       have hb2:Below w1.heap.size w1 w2:=by rw [hw2];exact Qaf
       have hX2:Blk w2 w1.heap.size 105 #[.slice B1 m1 d1,.slice B2 m2 d2]:=by rw [hw2];exact Blk.new _ _ _
       clear hw2;have hbw2:=Zb HB1.out hb2;have HB2:=Zh hbw2;have HBK:=Zh (fun V (hV:Below w2.heap.size w2 V)=>Qwk V g o j c N ls l lb x B1 B2 CA m1 m2 d1 d2 NC cC costs (HG.out.below (Zb hbw2 hV)) hok (HO.out.below (Zb hbw2 hV)) HP.out HL.out HLB.out HX.out ((HO1.out.below hb2).rds.rdI.below hV) ((HO2.out.below hb2).rds.rdI.below hV) (HC.out.below (Zb hbw2 hV)) hNC hNC2 HCO.out (fun q y a b s t h1 h2 h3=>HEE.out lb q y a b s t HLB.out h1 h2 h3));have HSX:=Zh (show ∀ V,Blk V w1.heap.size 105 #[.slice B1 m1 d1,.slice B2 m2 d2]→V.cell? ⟨w1.heap.size,0,none⟩=some (.slice B1 m1 d1)∧V.cell? ⟨w1.heap.size,1,none⟩=some (.slice B2 m2 d2) from fun V hV=>⟨hV.two.1,hV.two.2.1⟩)
       clear hb2 hbw2;refine wp_region_held_drew (S:=fun V=>Blk V w1.heap.size 105 #[.slice B1 m1 d1,.slice B2 m2 d2]) (by kernel_rfl) hX2.drew (fun _=>?_);refine tz 0 44 ?_;refine tz 1 45 ?_;refine tz 2 46 ?_;refine tz 3 47 ?_;refine tz 4 48 ?_;refine tz 5 49 ?_;refine tz 7 51 ?_;refine tz 8 52 ?_;refine tz 9 53 ?_;refine Zk 6 (fun K hK=>?_);go_simp;with_reducible refine (HBK.out _ (Zr _ _).drew).mono ?_
       rintro e w3 ⟨SA,sc,cs,cl,cc,pl,starts,L,rfl,hS,hNx,hFB,hnil,hpl,hst,hb3⟩;have hb23:Below w2.heap.size w2 w3:=(Zr _ _).drew.trans hb3;have hX3:=hX2.below hb23 hX2.lt;go_simp;refine hK.out _ _ hX3 (fun _=>?_);clear hK K;refine Zk 10 (fun K hK=>?_);go_simp;have hstl:starts.length=m1:=by have:=hS.1;rw [Qep] at this;exact this
       have hstp:∀ p∈starts,∃ s,pl[p]?=some s:=fun p hp=>by
        obtain ⟨k,hk⟩:=Yr hp;have hkl:=(Zs hk).1;obtain ⟨z,hz⟩:∃ z,x.1[k]?=some z:=⟨_,Zg (by omega)⟩;obtain ⟨s,rfl⟩:=Qga HX.out hz;obtain ⟨p',e1,e2⟩:=hst k s hz;rw [hk] at e1
        cases e1
        exact ⟨s,e2⟩
       have hFl:=hFB.fld hok;rw [hm2] at hFl
       have HLE:=Zh (Qsl w3 pl.length m1 sc m2 _ SA _ starts L MB 70377334112256 hS (fun s hs=>by obtain ⟨s',e⟩:=hstp s hs;exact (Zs e).1) hpl (by omega) (by omega) (by omega) hNx hFl hnil (fun s hs p d hr=>by
        obtain ⟨s',e⟩:=hstp s hs;exact hFB.bound hok HLL.out HBV.out.len HNE.out HX.out HEX.out _ HBT.out e p d hr) (by unfold MB;omega) (by omega) (by unfold MB;omega))
       have HFB:=Zh hFB;have HST:=Zh hst;have HB3:=Zh (Zb HB2.out hb23);clear hS hNx hFB hFl hnil hpl hst hb3 hb23 hstl hstp;with_reducible refine HLE.out.mono ?_
       rintro e w4 ⟨bb,ces,rfl,hbb,hcl,hlst,hbs,hb4⟩;have hX4:=hX3.below hb4 hX3.lt;have HBB:=Zh hbb;have HCL:=Zh hcl;have HLST:=Zh hlst;have HB4:=Zh (Zb HB3.out hb4);clear hbb hcl hlst hbs hb4;go_simp;refine hK.out _ _ hX4 (fun _=>?_);clear hK K;refine tz 11 10 ?_;refine Zd ?_
       go_wp2_with fail
       go_ret
       have hsz:szG x=m1*m2:=by unfold szG;rw [hm1,hm2]
       refine ⟨some ⟨bb,0,none⟩,m1*m2,ces,by rw [hsz];rfl,by rw [hsz];exact HBB.out.rdI HCL.out,fun a b s t ha hb=>?_,HB4.out⟩;have ha':=(Zs ha).1;have hb':=(Zs hb).1;rw [hm2];obtain ⟨p,e1,e2⟩:=HST.out a s ha;exact HFB.out.entry hok HLL.out HBV.out.len HNE.out HX.out HEX.out e2 hb (HLST.out a p b e1 (by omega))
def Qdp (N:Qai) (ls:List (List Int)) (i c:Nat) (cl:List Int):Prop:=∀ (k:Nat) (lb:List Int) (q:Nat) (y:Qak) (a b s t:Nat),k<i∨k=i∧q<c→ls[k]?=some lb→(gateRow N.ar lb)[q]?=some y→y.1[a]?=some (s:Int)→y.2[b]?=some (t:Int)→Qgr N (Qcw lb q) s t (cl.getD (Qhn (gatesOf N.ar ls) (gateRow N.ar lb) k q y a b) 0)
def Qhi (cl:List Int):Prop:=∀ z∈cl,0≤z∧z≤1152921504606846976
theorem Qlf {L cs:List Int}{off k:Nat}(h:off+cs.length≤L.length) :
 (splice L off cs).getD k 0=if k<off then L.getD k 0 else if k<off+cs.length then cs.getD (k-off) 0 else L.getD k 0:=by
 unfold splice;simp only [Ya]
 by_cases h1:k<off
 · rw [if_pos h1,Yc (by simp;omega),List.getElem?_take_of_lt h1]
 · rw [if_neg h1]
   have hl:(L.take off).length=off:=by rw [Yw];omega
   rw [Yb (by omega),hl]
   by_cases h2:k<off+cs.length
   · rw [if_pos h2,Yc (by omega)]
   · rw [if_neg h2,Yb (by omega),List.getElem?_drop]
     congr 2
     omega
theorem Quo {L cs:List Int}{off:Nat}{z:Int}(h:z∈splice L off cs):z∈L∨z∈cs:=by
 unfold splice at h;simp only [List.mem_append] at h
 rcases h with h|h|h
 · exact .inl (List.mem_of_mem_take h)
 · exact .inr h
 · exact .inl (List.mem_of_mem_drop h)
theorem Qhv (L cs:List Int)(off:Nat):splice (Qad L) off (Qad cs)=Qad (splice L off cs):=by
 unfold splice Qad;simp [List.map_take,List.map_drop]
theorem Qpr {N:Qai}{l:List Int}{c:Nat}{x:Qak} (hx:(gateRow N.ar l)[c]?=some x) {k:Nat} (hk:k<szG x) :
 ∃ a b s t:Nat,k=a*x.2.length+b∧x.1[a]?=some (s:Int)∧x.2[b]?=some (t:Int):=by
 have hk2:k<x.1.length*x.2.length:=hk
 generalize hm:x.2.length=m at hk2
 have hn2:0<m:=by
  rcases Nat.eq_zero_or_pos m with h|h
  · rw [h,Nat.mul_zero] at hk2;omega
  · exact h
 have hb:k % m<m:=Nat.mod_lt k hn2
 have ha:k / m<x.1.length:=(Nat.div_lt_iff_lt_mul hn2).2 hk2
 have e:k=k / m*m+k % m:=by have:=Nat.div_add_mod k m;rw [Nat.mul_comm] at this;exact this.symm
 obtain ⟨a,h1⟩:∃ a,a=k / m:=⟨_,rfl⟩;obtain ⟨b,h2⟩:∃ b,b=k % m:=⟨_,rfl⟩;rw [←h1] at ha e;rw [←h2] at hb e;obtain ⟨z1,h3⟩:∃ z,x.1[a]?=some z:=⟨_,Zg ha⟩;obtain ⟨z2,h4⟩:∃ z,x.2[b]?=some z:=⟨_,Zg (by rw [hm];exact hb)⟩;obtain ⟨s,hs⟩:=Qga hx h3;obtain ⟨t,ht⟩:=Qey hx h4;exact ⟨a,b,s,t,e,by rw [h3,hs],by rw [h4,ht]⟩
theorem Qhi.next {N:Qai}(hok:Qav N){l:List Int}{c off:Nat}{x:Qak}{cl ces:List Int}(h:Qhi cl) (hx:(gateRow N.ar l)[c]?=some x) (hl:ces.length=szG x)
 (he:∀ (a b s t:Nat),x.1[a]?=some (s:Int)→x.2[b]?=some (t:Int)→Qgr N (Qcw l c) s t (ces.getD (a*x.2.length+b) 0)):Qhi (splice cl off ces):=fun z hz=>by
 rcases Quo hz with h1|h1
 · exact h z h1
 · obtain ⟨k,hk⟩:=Yr h1
   have hk':=(Zs hk).1;obtain ⟨a,b,s,t,e,h2,h3⟩:=Qpr hx (k:=k) (by omega);have h4:=he a b s t h2 h3;rw [←e,Ya,hk] at h4;have:=h4.bd hok;simp at this;omega
theorem Qdp.next {N:Qai} {ls:List (List Int)} {i c:Nat} {l:List Int} {x:Qak} {cl ces:List Int} (h:Qdp N ls i c cl) (hl:ls[i]?=some l) (hx:(gateRow N.ar l)[c]?=some x) (hn:ces.length=szG x)
 (hfit:Qbr ((gatesOf N.ar ls).take i)+Qda ((gateRow N.ar l).take c)+szG x≤cl.length)
 (he:∀ (a b s t:Nat),x.1[a]?=some (s:Int)→x.2[b]?=some (t:Int)→Qgr N (Qcw l c) s t (ces.getD (a*x.2.length+b) 0)) :
 Qdp N ls i (c+1) (splice cl (Qbr ((gatesOf N.ar ls).take i)+Qda ((gateRow N.ar l).take c)) ces):=fun k lb q y a b s t hk hb hy h1 h2=>by
 have ha':=(Zs h1).1;have hb':=(Zs h2).1;rw [Qlf (by omega)]
 by_cases hkq:k<i∨k=i∧q<c
 · have hlt:Qhn (gatesOf N.ar ls) (gateRow N.ar lb) k q y a b<Qbr ((gatesOf N.ar ls).take i)+Qda ((gateRow N.ar l).take c):=by
    rcases hkq with h3|⟨rfl,h3⟩
    · have e1:=Qjj (Qbj (ar:=N.ar) hb) hy ha' hb'
      have e2:=Qfo (gatesOf N.ar ls) (show k+1≤i from h3)
      omega
    · rw [hl] at hb
      cases hb
      have e1:=Qqv (gs:=gatesOf N.ar ls) (i:=k) hy ha' hb';have e2:=Qfx (gateRow N.ar l) (show q+1≤c from h3)
      omega
   rw [if_pos hlt];exact h k lb q y a b s t hkq hb hy h1 h2
 · obtain ⟨rfl,rfl⟩:k=i∧q=c:=by omega
   rw [hl] at hb
   cases hb
   rw [hx] at hy
   cases hy
   have hin:a*x.2.length+b<szG x:=by
    unfold szG;have e1:(a+1)*x.2.length≤x.1.length*x.2.length:=Nat.mul_le_mul_right _ ha';rw [Nat.add_mul,Nat.one_mul] at e1;omega
   rw [if_neg (by unfold Qhn;omega),if_pos (by unfold Qhn;omega)];have:Qhn (gatesOf N.ar ls) (gateRow N.ar l) k q x a b-(Qbr ((gatesOf N.ar ls).take k)+Qda ((gateRow N.ar l).take q))=a*x.2.length+b:=by unfold Qhn;omega
   rw [this];exact he a b s t h1 h2
theorem Qdp.start (N:Qai) (ls:List (List Int)) (cl:List Int):Qdp N ls 0 0 cl:=fun k lb q y a b s t hk=>by omega
theorem Qdp.up {N:Qai} {ls:List (List Int)} {i c:Nat} {l:List Int} {cl:List Int} (h:Qdp N ls i c cl) (hl:ls[i]?=some l) (hc:(gateRow N.ar l).length≤c):Qdp N ls (i+1) 0 cl:=fun k lb q y a b s t hk hb hy h1 h2=>by
 refine h k lb q y a b s t ?_ hb hy h1 h2
 by_cases e:k<i
 · exact .inl e
 · obtain rfl:k=i:=by omega
   rw [hl] at hb
   cases hb
   have:=(Zs hy).1;exact .inr ⟨rfl,by omega⟩
theorem Qdp.low {N:Qai} {ls:List (List Int)} {i c j:Nat} {cl:List Int} (h:Qdp N ls i c cl) (hj:j<i):LowE N ls j cl:=fun lb q y a b s t hb hy h1 h2=>h j lb q y a b s t (.inl hj) hb hy h1 h2
theorem Qzr {w:World}{ops:Array Oper}{o:Oper}{a:Act}{K:Act→World→Prop}{Q:Exit→Act→World→Prop}{E:Prop}(d':Option Tmp)(hd':o.dst=d')(hgd:o.guard=none)(d s:Operand)
 (ho:o.op=.call { callee:=.builtin .copy,args:=#[d,s],argTypes:=#[30,30] })
 (A:Option Addr) (n cp B off N:Nat) (cl ces:List Int) (hd:a.eval d=.slice (cutA 1 (some ⟨B,0,none⟩) off N) (N-off) (N-off)) (hs:a.eval s=.slice A n cp)
 (hB:Blk w B 2 (Qad cl).toArray) (hcl:cl.length=N) (hA:RdI w A n ces) (hfit:off+n≤N)
 (h:∀ w',Blk w' B 2 (Qad (splice cl off ces)).toArray→Below B w w'→K (a.put d' (.int .i64 n)) w') :
 if Region.wanted o (yielded ops a.tmps)=true then Oper.wp prog o a w K Q else E:=by
 subst hd';have hlen:ces.length=n:=hA.1
 refine step_copy_splice hgd d s 30 30 ho 2 underlying30 (by kernel_rfl) _ A _ _ n cp hd hs B off (Qad cl) 2 hB (Qad ces) (by rw [show (Qad ces).length=n by simp [Qad,hlen]];exact (Nat.min_eq_left (by omega)).symm) (fun hp=>?_)
  (by simp [Qad,hlen,hcl];omega) (Qam _) B w (Zr _ _) (Zn _) (fun w' h1 h2=>?_)
 · have hn:0<n:=by simpa [Qad,hlen] using hp
   refine ⟨by unfold cutA;rw [if_neg (by omega)];by_cases h0:off=0 <;> simp [Addr.add,h0],?_⟩
   obtain ⟨z,hz⟩:∃ z,ces[0]?=some z:=⟨_,Zg (by omega)⟩;obtain ⟨b,o',e,_⟩:=hA.2 0 z hz;refine ⟨_,e,fun j v hv=>?_⟩
   have hj:∃ x,ces[j]?=some x∧v=.int .i64 x:=by
    simp [Qad] at hv;obtain ⟨x,e1,e2⟩:=hv;exact ⟨x,e1,e2.symm⟩
   obtain ⟨x,hx,rfl⟩:=hj;obtain ⟨b2,o2,e2,hc⟩:=hA.2 j x hx;rw [e] at e2
   cases e2
   unfold Addr.add
   by_cases h0:j=0
   · rw [if_pos h0]
     subst h0;exact hc
   · rw [if_neg h0]
     exact hc
 · have hw:=h w' (by rw [←Qhv];exact h1.out) h2
   rw [show goInt (Qad ces).length=Value.int .i64 (n:Int) by simp [Qad,hlen,goInt]]
   exact hw
def AllR (w:World)(N:Qai) (ls:List (List Int)) (e:Ending) (w':World):Prop :=
 ∃ (B:Nat) (cl:List Int),e=.returned (.slice (some ⟨B,0,none⟩) (Qbr (gatesOf N.ar ls)) (Qbr (gatesOf N.ar ls)))∧w.heap.size≤B∧Blk w' B 2 (Qad cl).toArray∧cl.length=Qbr (gatesOf N.ar ls)∧Qhi cl∧Qdp N ls ls.length 0 cl∧Below w.heap.size w w'
set_option maxHeartbeats 2000000 in
theorem all_ok (w:World)(g o:Nat)(N:Qai) (ls:List (List Int)) (hg:Qgm w g N) (hok:Qav N) (ho:Qfm w o N.ar ls) (hP:Qbw N.vs.length ls) (hNC:Qbr (gatesOf N.ar ls)≤1000000000) :
 Calls prog 18 #[.pointer (some ⟨g,0,none⟩),.pointer (some ⟨o,0,none⟩)] w (AllR w N ls):=by
 have hL6:ls.length≤6:=hP.l6;have HG:=Zh hg;have HO:=Zh ho;have HP:=Zh hP;obtain ⟨NC,hNCe⟩:∃ NC,NC=Qbr (gatesOf N.ar ls):=⟨_,rfl⟩;have HSZ:=Zh (Qfr o N.ar ls w ho);rw [←hNCe] at HSZ hNC;have HNC:=Zh hNCe;obtain ⟨L,hL⟩:∃ L,L=ls.length:=⟨_,rfl⟩;have HL:=Zh hL;rw [←hL] at hL6;have hmk:=Qfa NC (by omega);clear hg ho hP hNCe hL
 go_enter func18,ntmps18
 go_wp2_with fail
 with_reducible refine HSZ.out.mono ?_
 rintro e w' ⟨rfl,rfl⟩
 go_wp2_with fail
 (refine Qag ?_;intro w1 hw1)
 have hb1:Below w.heap.size w w1:=by rw [hw1];exact Qaf
 have hB1:Blk w1 w.heap.size 2 (Qad (List.replicate NC 0)).toArray:=by rw [hw1,show (Qad (List.replicate NC 0)).toArray=Qbd (.int .i64 0) NC by simp [Qad,Qbd]];exact Blk.new _ _ _
 clear hw1;obtain ⟨B,hBe⟩:∃ B,B=w.heap.size:=⟨_,rfl⟩;rw [←hBe] at hb1 hB1 ⊢;have HBE:=Zh hBe;clear hBe
 go_loopw [6,7] (fun z q V=>Below B w V∧∃ (i at_:Nat) (cl:List Int),i≤L∧q=.int .i64 ((i:Int)+1)∧z=.int .i64 (at_:Nat)∧at_=Qbr ((gatesOf N.ar ls).take i)∧Blk V B 2 (Qad cl).toArray∧cl.length=NC∧Qhi cl∧Qdp N ls i 0 cl) (fun _ q _=>L+1-(intOf q).toNat)
 case atStart=>exact ⟨hb1,0,0,List.replicate NC 0,Nat.zero_le _,rfl,rfl,by simp [Qbr],hB1,by simp,fun z hz=>by have:=List.eq_of_mem_replicate hz;omega,Qdp.start _ _ _⟩
 case round =>
  obtain ⟨hbl,i,at_,cl,hi,rfl,rfl,hat,hB,hcl,hco,hdo⟩:=hrel;have HLV:=Zh (Qhe o N.ar ls wr (HO.out.below (by rw [←HBE.out];exact hbl)));rw [←HL.out] at HLV
  by_cases hiL:i<L
  rotate_left
  · obtain rfl:i=L:=by omega
    have i1:¬((i:Int)+1≤(i:Int)):=by omega
    have HAT:=Zh hat;have HB:=Zh hB;have HCL:=Zh hcl;have HCO:=Zh hco;have HDO:=Zh hdo;clear hat hB hcl hco hdo
    go_wp2_with fail
    with_reducible refine HLV.out.mono ?_
    rintro e w' ⟨rfl,rfl⟩
    go_wp2_with fail
    go_ret
    exact ⟨B,cl,by rw [←HNC.out];rfl,by rw [HBE.out];exact Zn _,HB.out,by rw [←HNC.out];exact HCL.out,HCO.out,by rw [←HL.out];exact HDO.out,by rw [←HBE.out];exact hbl⟩
  · have i1:(i:Int)+1≤(L:Int):=by omega
    obtain ⟨l,hl⟩:∃ l,ls[i]?=some l:=⟨_,Zg (by rw [←HL.out];exact hiL)⟩;obtain ⟨M,hM⟩:∃ M,M=(gateRow N.ar l).length:=⟨_,rfl⟩;have HM:=Zh hM;have HCE:=Zh (Qfp o i M N.ar ls l wr (HO.out.below (by rw [←HBE.out];exact hbl)) hl (by rw [←HL.out];omega) (by rw [hM,Qaq]));have HLJ:=Zh hl;have HAT:=Zh hat;have HB:=Zh hB;have HCL:=Zh hcl;have HCO:=Zh hco;have HDO:=Zh hdo;have hatb:at_≤NC:=by rw [hat,HNC.out];exact Qef _ _
    have hMb:M≤4096:=by
     have h1:=HP.out.lvl l (Zm hl);have h2:=Qbq (l:=l) (n:=(N.vs.length:Int)) (fun x hx=>h1.hi x hx) (by omega);have h3:=hok.lv;rw [hM,Qaq];omega
    clear hat hB hcl hco hdo hl hM
    go_wp2_with fail
    with_reducible refine HLV.out.mono ?_
    rintro e w' ⟨rfl,rfl⟩
    go_wp2_with fail
    with_reducible refine HCE.out.mono ?_
    rintro e w' ⟨rfl,rfl⟩
    go_wp2_with fail
    clear HLV HCE
    go_loopw [6,21] (fun z q V=>Below B w V∧∃ (c at2:Nat) (cl:List Int),c≤M∧q=.int .i64 (c:Nat)∧z=.int .i64 (at2:Nat)∧at2=Qbr ((gatesOf N.ar ls).take i)+Qda ((gateRow N.ar l).take c)∧Blk V B 2 (Qad cl).toArray∧cl.length=NC∧Qhi cl∧Qdp N ls i c cl) (fun _ q _=>M-(intOf q).toNat)
    case atStart=>exact ⟨hbl,0,at_,cl,Nat.zero_le _,rfl,rfl,by rw [HAT.out];simp [Qda],HB.out,HCL.out,HCO.out,HDO.out⟩
    case round =>
     obtain ⟨hbl2,c,at2,cl,hc,rfl,rfl,hat,hB,hcl,hco,hdo⟩:=hrel;have HAT2:=Zh hat;have HB2:=Zh hB;have HCL2:=Zh hcl;have HCO2:=Zh hco;have HDO2:=Zh hdo;clear HB HCL HCO HDO
     by_cases hcM:c<M
     rotate_left
     · obtain rfl:c=M:=by omega
       clear hat hB hcl hco hdo
       go_wp2_with fail
       go_roundw
       case rel=>exact ⟨hbl2,i+1,at2,cl,by omega,by go_num,rfl,by rw [Qck (Qbj HLJ.out),HAT2.out,Ye (l:=gateRow N.ar l) (by rw [←HM.out];exact Zn _)],HB2.out,HCL2.out,HCO2.out,HDO2.out.up HLJ.out (by rw [←HM.out];exact Zn _)⟩
       case measure=>simp [intOf];omega
     · obtain ⟨x,hx⟩:∃ x,(gateRow N.ar l)[c]?=some x:=⟨_,Zg (by rw [←HM.out];exact hcM)⟩
       have HX:=Zh hx
       have hat3:at2+szG x≤NC:=by
        have e1:=Qgb (gateRow N.ar l) (c+1);have e2:=Qef (gatesOf N.ar ls) (i+1);rw [Qck (Qbj HLJ.out),←HNC.out] at e2;rw [Qcl hx] at e1;omega
       have HON:=Zh (fun V (hV:Below wr.heap.size wr V)=>one_ok V g o i c N ls l x (some ⟨B,0,none⟩) NC NC cl (HG.out.below (Zb (by rw [←HBE.out];exact hbl2) hV)) hok (HO.out.below (Zb (by rw [←HBE.out];exact hbl2) hV)) HP.out HLJ.out hx ((Blk.below hB hV hB.lt).rdI hcl) (by rw [←HNC.out];exact Zn _) hNC hco (fun j hj=>hdo.low (by omega)));have hsl:=fun W=>Qpl (P:=prog) 30 2 1 underlying30 (by kernel_rfl) (by kernel_rfl) (some ⟨B,0,none⟩) NC NC at2 (NC-at2) (by omega) rfl .i64 (at2:Int) rfl W
       clear hat hB hcl hco hdo hx
       go_wp2_with fail
       refine wp_region_held_drew (S:=fun _=>True) (by kernel_rfl) trivial (fun _=>?_);refine tz 0 24 ?_;refine tz 1 25 ?_;refine tz 2 26 ?_;refine tz 3 27 ?_;refine tz 4 28 ?_;refine tz 5 29 ?_;refine tz 6 30 ?_;refine tz 7 31 ?_;refine tz 8 32 ?_;refine Zk 9 (fun K hK=>?_);go_simp;with_reducible refine (HON.out _ (Zr _ _).drew).mono ?_
       rintro e w3 ⟨A,cp,ces,rfl,hA,hent,hb3⟩;have hb23:Below wr.heap.size wr w3:=(Zr _ _).drew.trans hb3;have HB3:=Zh (Blk.below HB2.out hb23 HB2.out.lt);have HA:=Zh hA;have HE:=Zh hent;clear hA hent hb3;go_simp;refine hK.out _ _ trivial (fun _=>?_);clear hK K;refine Zk 10 (fun K hK=>?_);with_reducible refine Qzr (some 34) rfl rfl (.tmp 27) (.tmp 33) rfl A (szG x) cp B at2 NC cl ces rfl rfl HB3.out HCL2.out HA.out hat3 ?_
       intro w4 hB4 hb4;have HB4:=Zh hB4;have hbw4:Below B w w4:=hbl2.trans ((hb23.mono (by have:=HB2.out.lt;omega)).trans hb4);clear hB4 hb4 hb23;go_simp;refine hK.out _ _ trivial (fun _=>?_);clear hK K;refine tz 11 35 ?_;refine tz 12 6 ?_;refine Zd ?_
       go_wp2_with fail
       go_roundw
       case rel=>exact ⟨hbw4,c+1,at2+szG x,splice cl at2 ces,by omega,by go_num,by rw [IntWalk.i64_in _ (by omega)];rfl,by rw [Qcl HX.out,HAT2.out];omega,HB4.out,by rw [length_splice _ _ _ (by rw [HA.out.1,HCL2.out];exact hat3)];exact HCL2.out,HCO2.out.next hok HX.out HA.out.1 HE.out,by
        have:=HDO2.out.next HLJ.out HX.out HA.out.1 (by rw [HCL2.out,←HAT2.out];exact hat3) HE.out;rw [←HAT2.out] at this;exact this⟩
       case measure=>simp [intOf];omega
theorem Qrp:∀ (l:List Nat)(k:Nat),k<l.sum→∃ i,i<l.length∧(l.take i).sum≤k∧k<(l.take (i+1)).sum
 | [],k,h=>by simp at h
 | x::t,k,h=>by
  by_cases hk:k<x
  · exact ⟨0,by simp,by simp,by simpa using hk⟩
  · simp only [List.sum_cons] at h
    obtain ⟨i,h1,h2,h3⟩:=Qrp t (k-x) (by omega);refine ⟨i+1,by simp;omega,?_,?_⟩
    · simp only [List.take_succ_cons,List.sum_cons];omega
    · simp only [List.take_succ_cons,List.sum_cons] at h3 ⊢;omega
structure Qhd (N:Qai) (ls:List (List Int)) (k i:Nat) (l:List Int) (c:Nat) (x:Qak) (a b s t:Nat):Prop where
 hl:ls[i]?=some l
 hx:(gateRow N.ar l)[c]?=some x
 ha:x.1[a]?=some (s:Int)
 hb:x.2[b]?=some (t:Int)
 hk:k=Qhn (gatesOf N.ar ls) (gateRow N.ar l) i c x a b
theorem ent_ex {N:Qai} {ls:List (List Int)} {k:Nat} (hk:k<Qbr (gatesOf N.ar ls)):∃ i l c x a b s t,Qhd N ls k i l c x a b s t:=by
 obtain ⟨i,h1,h2,h3⟩:=Qrp _ _ hk;rw [←List.map_take] at h2 h3;rw [List.length_map] at h1;have hi:i<ls.length:=by simpa [gatesOf] using h1
 obtain ⟨l,hl⟩:∃ l,ls[i]?=some l:=⟨_,Zg hi⟩;have e1:=Qck (Qbj (ar:=N.ar) hl);unfold Qbr at e1;rw [e1] at h3;have h4:k-((List.take i (gatesOf N.ar ls)).map Qda).sum<Qda (gateRow N.ar l):=by omega
 obtain ⟨c,g1,g2,g3⟩:=Qrp _ _ h4;rw [←List.map_take] at g2 g3;rw [List.length_map] at g1;obtain ⟨x,hx⟩:∃ x,(gateRow N.ar l)[c]?=some x:=⟨_,Zg g1⟩;have e2:=Qcl hx;unfold Qda at e2;rw [e2] at g3;obtain ⟨a,b,s,t,e,f1,f2⟩:=Qpr hx (k:=k-((List.take i (gatesOf N.ar ls)).map Qda).sum-((List.take c (gateRow N.ar l)).map szG).sum) (by omega);exact ⟨i,l,c,x,a,b,s,t,hl,hx,f1,f2,by unfold Qhn Qbr Qda at *;omega⟩
theorem Qhd.lt {N:Qai} {ls:List (List Int)} {k i c a b s t:Nat} {l:List Int} {x:Qak} (h:Qhd N ls k i l c x a b s t):k<Qbr ((gatesOf N.ar ls).take i)+Qda ((gateRow N.ar l).take (c+1))∧k<Qbr ((gatesOf N.ar ls).take (i+1))∧k<Qbr (gatesOf N.ar ls)∧Qbr ((gatesOf N.ar ls).take i)+Qda ((gateRow N.ar l).take c)≤k:=by
 have ha:=(Zs h.ha).1;have hb:=(Zs h.hb).1;have h1:=Qqv (gs:=gatesOf N.ar ls) (i:=i) h.hx ha hb;have h2:=Qjj (Qbj (ar:=N.ar) h.hl) h.hx ha hb;have h3:=Qef (gatesOf N.ar ls) (i+1);rw [←h.hk] at h1 h2;exact ⟨h1,h2,by omega,by rw [h.hk];unfold Qhn;omega⟩
theorem Qhd.inj {N:Qai} {ls:List (List Int)} {k i c a b s t i' c' a' b' s' t':Nat} {l l':List Int} {x x':Qak} (h:Qhd N ls k i l c x a b s t) (g:Qhd N ls k i' l' c' x' a' b' s' t') :
 i=i'∧l=l'∧c=c'∧x=x'∧a=a'∧b=b'∧s=s'∧t=t':=by
 have h1:=h.lt;have g1:=g.lt
 have hi:i=i':=by
  rcases Nat.lt_trichotomy i i' with e|e|e
  · have:=Qfo (gatesOf N.ar ls) (show i+1≤i' from e);omega
  · exact e
  · have:=Qfo (gatesOf N.ar ls) (show i'+1≤i from e);omega
 subst hi;have hl:l=l':=by have:=h.hl;rw [g.hl] at this;cases this;rfl
 subst hl
 have hc:c=c':=by
  rcases Nat.lt_trichotomy c c' with e|e|e
  · have:=Qfx (gateRow N.ar l) (show c+1≤c' from e);omega
  · exact e
  · have:=Qfx (gateRow N.ar l) (show c'+1≤c from e);omega
 subst hc;have hx:x=x':=by have:=h.hx;rw [g.hx] at this;cases this;rfl
 subst hx;have hb:=(Zs h.hb).1;have hb':=(Zs g.hb).1;have e:a*x.2.length+b=a'*x.2.length+b':=by have e1:=h.hk;have e2:=g.hk;unfold Qhn at e1 e2;omega
 have hab:a=a':=by
  rcases Nat.lt_trichotomy a a' with e3|e3|e3
  · have:(a+1)*x.2.length≤a'*x.2.length:=Nat.mul_le_mul_right _ e3
    rw [Nat.add_mul,Nat.one_mul] at this;omega
  · exact e3
  · have:(a'+1)*x.2.length≤a*x.2.length:=Nat.mul_le_mul_right _ e3
    rw [Nat.add_mul,Nat.one_mul] at this;omega
 subst hab;have hbb:b=b':=by omega
 subst hbb;have hs:=h.ha;rw [g.ha] at hs;have ht:=h.hb;rw [g.hb] at ht;have hs2:(s':Int)=(s:Int):=Yv hs;have ht2:(t':Int)=(t:Int):=Yv ht;exact ⟨rfl,rfl,rfl,rfl,rfl,rfl,by omega,by omega⟩
def EntV (N:Qai) (ls:List (List Int)) (k:Nat) (v:Int):Prop:=∃ i l c x a b s t,Qhd N ls k i l c x a b s t∧Qgr N (Qcw l c) s t v
theorem EntV.uniq {N:Qai} {ls:List (List Int)} {k:Nat} {v v':Int} (h:EntV N ls k v) (g:EntV N ls k v'):v=v':=by
 obtain ⟨i,l,c,x,a,b,s,t,h1,h2⟩:=h;obtain ⟨i',l',c',x',a',b',s',t',g1,g2⟩:=g;obtain ⟨rfl,rfl,rfl,rfl,rfl,rfl,rfl,rfl⟩:=h1.inj g1;exact h2.uniq g2
def RowE (N:Qai) (ls:List (List Int)) (cl:List Int):Prop:=∀ (k:Nat) (v:Int),cl[k]?=some v→EntV N ls k v
theorem RowE.push {N:Qai} {ls:List (List Int)} {cl:List Int} {v:Int} (h:RowE N ls cl) (g:EntV N ls cl.length v):RowE N ls (cl ++[v]):=fun k u hk=>by
 rcases Nat.lt_trichotomy k cl.length with e|e|e
 · rw [Yc e] at hk;exact h k u hk
 · subst e;rw [Yb (Zn _),Yy] at hk;cases hk;exact g
 · rw [Yd (by simp;omega)] at hk;cases hk
structure Qfd (N:Qai) (ls:List (List Int)) (cl:List Int):Prop where
 len:cl.length=Qbr (gatesOf N.ar ls)
 row:RowE N ls cl
theorem Qfd.uniq {N:Qai} {ls:List (List Int)} {cl cl':List Int} (h:Qfd N ls cl) (g:Qfd N ls cl'):cl=cl':=by
 refine List.ext_getElem? (fun k=>?_)
 rcases Nat.lt_or_ge k cl.length with e|e
 · have e':k<cl'.length:=by rw [g.len,←h.len];exact e
   rw [Zg e,Zg e',(h.row k _ (Zg e)).uniq (g.row k _ (Zg e'))]
 · rw [Yd e,Yd (by rw [g.len,←h.len];exact e)]
theorem Qdp.all {N:Qai} {ls:List (List Int)} {cl:List Int} (h:Qdp N ls ls.length 0 cl) (hl:cl.length=Qbr (gatesOf N.ar ls)):Qfd N ls cl:=by
 refine ⟨hl,fun k v hk=>?_⟩;obtain ⟨i,l,c,x,a,b,s,t,he⟩:=ent_ex (k:=k) (by rw [←hl];exact (Zs hk).1);refine ⟨i,l,c,x,a,b,s,t,he,?_⟩;have h1:=h i l c x a b s t (.inl (Zs he.hl).1) he.hl he.hx he.ha he.hb;rw [←he.hk,Ya,hk] at h1;exact h1
theorem Qfd.done {N:Qai} {ls:List (List Int)} {cl:List Int} (h:Qfd N ls cl) (i c:Nat):Qdp N ls i c cl:=fun k lb q y a b s t _ hb hy h1 h2=>by
 obtain ⟨kk,hkk⟩:∃ kk,kk=Qhn (gatesOf N.ar ls) (gateRow N.ar lb) k q y a b:=⟨_,rfl⟩;have he:Qhd N ls kk k lb q y a b s t:=⟨hb,hy,h1,h2,hkk⟩;obtain ⟨v,hv⟩:∃ v,cl[kk]?=some v:=⟨_,Zg (by rw [h.len];exact he.lt.2.2.1)⟩;obtain ⟨i',l',c',x',a',b',s',t',g1,g2⟩:=h.row kk v hv;obtain ⟨rfl,rfl,rfl,rfl,rfl,rfl,rfl,rfl⟩:=he.inj g1;rw [←hkk,Ya,hv];exact g2
theorem Qfd.cost {N:Qai}(hok:Qav N) {ls:List (List Int)} {cl:List Int} (h:Qfd N ls cl):Qhi cl:=fun z hz=>by
 obtain ⟨k,hk⟩:=Yr hz;obtain ⟨i,l,c,x,a,b,s,t,_,h2⟩:=h.row k z hk;have:=h2.bd hok;omega
theorem Qmq (f:Tri→Int)(v:Int):∀ (l m:List Tri) (k:Nat),l.map f=m.map f→((l.zipIdx k).filter (fun p=>f p.1 == v)).map (fun p=>(p.2:Int))=((m.zipIdx k).filter (fun p=>f p.1 == v)).map (fun p=>(p.2:Int))
 | [],[],_,_=>rfl
 | [],_::_,_,h=>by simp at h
 | _::_,[],_,h=>by simp at h
 | a::l,b::m,k,h=>by
  simp only [List.map_cons,List.cons.injEq] at h;have ih:=Qmq f v l m (k+1) h.2;simp only [List.zipIdx_cons,List.filter_cons,h.1]
  split
  · simp only [List.map_cons,ih]
  · exact ih
theorem Qez {f:Tri→Int}{l m:List Tri}(h:l.map f=m.map f)(v:Int):idx f l v=idx f m v:=Qmq f v l m 0 h
theorem Qmr {f:Tri→Int}{l m:List Tri}(h:l.map f=m.map f)(n:Nat):Qif f l n=Qif f m n:=by
 unfold Qif;simp only [Qez h]
def Qdz (l m:List Tri):Prop:=l.map (·.1)=m.map (·.1)∧l.map (·.2.1)=m.map (·.2.1)
theorem Qdz.len {l m:List Tri}(h:Qdz l m):l.length=m.length:=by
 have:=congrArg List.length h.1
 simpa using this
theorem Qdz.take {l m:List Tri}(h:Qdz l m)(k:Nat):Qdz (l.take k) (m.take k):=⟨by rw [List.map_take,List.map_take,h.1],by rw [List.map_take,List.map_take,h.2]⟩
theorem Qdz.get {l m:List Tri}(h:Qdz l m){i:Nat}{a:Tri} (ha:l[i]?=some a):∃ b,m[i]?=some b∧b.1=a.1∧b.2.1=a.2.1:=by
 have hi:=(Zs ha).1;have him:i<m.length:=by rw [←h.len];exact hi
 have hm:m[i]?=some m[i]:=Zg him;have e1:=congrArg (·[i]?) h.1;have e2:=congrArg (·[i]?) h.2;simp only [Yt,ha,hm,Option.map_some,Option.some.injEq] at e1 e2;exact ⟨_,hm,e1.symm,e2.symm⟩
theorem Qdz.symm {l m:List Tri}(h:Qdz l m):Qdz m l:=⟨h.1.symm,h.2.symm⟩
theorem Qkh {l:List Tri}{a:Nat}{x y z:Int} (h:l[a]?=some (x,y,z)) (u:Int):Qdz (l.set a (x,y,u)) l:=by
 have hl:=(Zs h).1;refine ⟨?_,?_⟩ <;>
 · apply List.ext_getElem?
   intro i;simp only [Yt]
   by_cases e:a=i
   · subst e
     rw [Yg hl,h]
     rfl
   · rw [Yh e]
theorem Quq {l m:List Tri}(h:Qdz l m):plcs l=plcs m:=by
 apply List.ext_getElem?
 intro i
 rcases Nat.lt_or_ge i l.length with hi|hi
 · have ha:l[i]?=some l[i]:=Zg hi
   obtain ⟨b,hb,e1,e2⟩:=h.get ha;rw [Qhj ha,Qhj hb];unfold Qfg;rw [Qez (h.take i).2,Qez (h.take i).1,e1,e2]
 · rw [Yd (by rw [Qjk];exact hi),Yd (by rw [Qjk,←h.len];exact hi)]
theorem Qpg {f:Tri→Int}{l m:List Tri}(h:l.map f=m.map f)(v:Int):l.countP (fun a=>f a == v)=m.countP (fun a=>f a == v):=by
 rw [←Qmy,←Qmy,Qez h]
def Qai.setW (N:Qai)(a:Nat)(x y u:Int):Qai:=⟨N.vs,N.ar.set a (x,y,u),N.ts⟩
def Qai.bend (N:Qai)(p:Nat)(t:Qby):Qai:=⟨N.vs,N.ar,N.ts.set p t⟩
def Qby.turn (t:Qby)(i:Nat)(c:Int):Qby:=⟨t.ins,t.outs,t.costs.set i c⟩
theorem Qav.setW {N:Qai}(h:Qav N){a:Nat}{x y z u:Int} (ha:N.ar[a]?=some (x,y,z)) (hu:wOk u=true):Qav (N.setW a x y u) where
 lv:=h.lv
 la:=by show (N.ar.set a (x,y,u)).length≤_;rw [Yq];exact h.la
 lt:=h.lt
 tabs:=h.tabs
 verts:=h.verts
 arcs:=fun t ht=>by
  rcases List.mem_or_eq_of_mem_set ht with ht|rfl
  · exact h.arcs t ht
  · have:=h.arcs _ (Zm ha)
    exact ⟨this.f0,this.f1,this.g0,this.g1,hu⟩
 meet:=fun i v t hv ht=>by
  have h1:=h.meet i v t hv ht;have hA:=Qkh ha u;unfold Qyq Qxh at *
  show ((List.countP _ (N.ar.set a (x,y,u)):Nat):Int)=_∧((List.countP _ (N.ar.set a (x,y,u)):Nat):Int)=_
  rw [Qpg hA.2,Qpg hA.1];exact h1
theorem Qih.turn {t:Qby}(h:Qih t){i:Nat}{c:Int}(hc:wOk c=true):Qih (t.turn i c) where
 i0:=h.i0
 i16:=h.i16
 o0:=h.o0
 o16:=h.o16
 len:=by show ((t.costs.set i c).length:Int)=_;rw [Yq];exact h.len
 ok:=fun d hd=>by
  rcases List.mem_or_eq_of_mem_set hd with hd|rfl
  · exact h.ok d hd
  · exact hc
theorem Qav.bend {N:Qai}(h:Qav N){p:Nat}{t:Qby} (ht:N.ts[p]?=some t) {i:Nat} {c:Int} (hc:wOk c=true):Qav (N.bend p (t.turn i c)) where
 lv:=h.lv
 la:=h.la
 lt:=by show (N.ts.set p _).length≤_;rw [Yq];exact h.lt
 tabs:=fun s hs=>by
  rcases List.mem_or_eq_of_mem_set hs with hs|rfl
  · exact h.tabs s hs
  · exact (h.tabs t (Zm ht)).turn hc
 verts:=fun v hv=>by
  have:=h.verts v hv;have hl:(N.ts.set p (t.turn i c)).length=N.ts.length:=Yq ..;exact ⟨this.x,this.y,this.t0,by show v.2.2<((N.ts.set p (t.turn i c)).length:Int);rw [hl];exact this.t1⟩
 arcs:=h.arcs
 meet:=fun j v s hv hs=>by
  have hs:(N.ts.set p (t.turn i c))[v.2.2.toNat]?=some s:=hs
  by_cases e:p=v.2.2.toNat
  · rw [e,Yg (by rw [←e];exact (Zs ht).1)] at hs
    cases hs
    exact h.meet j v t hv (by rw [←e];exact ht)
  · rw [Yh e] at hs
    exact h.meet j v s hv hs
/-! the number of an entry, one by one -/
--BEGINPLAIN
structure Kin (N M:Qai):Prop where
 vs:M.vs=N.vs
 al:Qdz M.ar N.ar
theorem Kin.refl (N:Qai):Kin N N:=⟨rfl,rfl,rfl⟩
theorem Kin.trans {N M K:Qai}(h:Kin N M)(g:Kin M K):Kin N K:=⟨g.vs.trans h.vs,⟨g.al.1.trans h.al.1,g.al.2.trans h.al.2⟩⟩
theorem Kin.symm {N M:Qai}(h:Kin N M):Kin M N:=⟨h.vs.symm,h.al.symm⟩
structure Qej (N M:Qai) (mk:List Bool):Prop where
 kin:Kin N M
 w:∀ (b:Nat) (y z:Tri),N.ar[b]?=some y→M.ar[b]?=some z→mk.getD y.1.toNat false=true→mk.getD y.2.1.toNat false=true→z.2.2=y.2.2
 t:∀ (v:Nat) (x:Tri),N.vs[v]?=some x→mk.getD v false=true→M.ts[x.2.2.toNat]?=N.ts[x.2.2.toNat]?
theorem Qkn {l m:List Tri}(h:Qdz l m)(k:Nat){x y:Tri}(h1:x.1=y.1)(h2:x.2.1=y.2.1):Qfg l k x=Qfg m k y:=by
 unfold Qfg;rw [Qez (h.take k).2,Qez (h.take k).1,h1,h2]
theorem Qej.turn {N M:Qai}{mk:List Bool}(h:Qej N M mk){a b:Nat} (ha:∀ y,N.ar[a]?=some y→mk.getD y.2.1.toNat false=true):Qal M a b=Qal N a b:=by
 unfold Qal
 cases h1:N.ar[a]? with
 | none =>
  have e:M.ar[a]?=none:=Yd (by rw [h.kin.al.len];exact List.getElem?_eq_none_iff.1 h1);rw [e]
 | some x =>
  obtain ⟨x',e1,q1,q2⟩:=h.kin.al.symm.get h1;rw [e1]
  cases h2:N.ar[b]? with
  | none =>
   have e:M.ar[b]?=none:=Yd (by rw [h.kin.al.len];exact List.getElem?_eq_none_iff.1 h2);rw [e]
  | some y =>
   obtain ⟨y',e2,q3,q4⟩:=h.kin.al.symm.get h2;rw [e2];simp only;rw [q2,q3,h.kin.vs]
   split
   · cases h3:N.vs[x.2.1.toNat]? with
     | none=>rfl
     | some v =>
      have ht:=h.t _ v h3 (ha x h1);simp only;rw [ht,Qkn h.kin.al a q1 q2,Qkn h.kin.al b q3 q4]
   · rfl
theorem Qej.symm {N M:Qai}{mk:List Bool}(h:Qej N M mk):Qej M N mk :=
 ⟨h.kin.symm,fun b y z h1 h2 h3 h4=>by
  obtain ⟨y',e,q1,q2⟩:=h.kin.al.get h1;rw [h2] at e
  cases e
  exact (h.w b z y h2 h1 (by rw [q1];exact h3) (by rw [q2];exact h4)).symm,fun v x h1 h2=>(h.t v x (by rw [←h.kin.vs];exact h1) h2).symm⟩
theorem Qej.rch {N M:Qai}{mk:List Bool}(h:Qej N M mk){s p:Nat}{c:Int} (hs:∀ y,N.ar[s]?=some y→mk.getD y.2.1.toNat false=true) (hr:Rch (StA N mk) s p c):Rch (StA M mk) s p c∧∀ y,N.ar[p]?=some y→mk.getD y.2.1.toNat false=true:=by
 induction hr with
 | start=>exact ⟨.start,hs⟩
 | step _ h2 ih =>
  obtain ⟨g1,g2⟩:=ih;obtain ⟨y,hy,k1,k2,k3,k4,rfl⟩:=h2;obtain ⟨z,hz,q1,q2⟩:=h.kin.al.symm.get hy;have hw:=h.w _ y z hy hz k3 k4;refine ⟨.step g1 ⟨z,hz,by rw [h.turn g2];exact k1,by rw [hw];exact k2,by rw [q1];exact k3,by rw [q2];exact k4,by rw [h.turn g2,hw]⟩,fun y' hy'=>?_⟩;rw [hy] at hy'
  cases hy'
  exact k4
theorem Qej.out {N M:Qai}{mk:List Bool}(h:Qej N M mk){s t:Nat}{v:Int} (hs:∀ y,N.ar[s]?=some y→mk.getD y.2.1.toNat false=true) (ho:Qsg (StA N mk) (OuA N) s t v):Qsg (StA M mk) (OuA M) s t v:=by
 obtain ⟨p,c,d,h1,⟨h2,h3⟩,h4⟩:=ho;obtain ⟨g1,g2⟩:=h.rch hs h1;exact ⟨p,c,d,g1,⟨by rw [h.turn g2];exact h2,by rw [h.turn g2];exact h3⟩,h4⟩
theorem Qej.ent {N M:Qai}{mk:List Bool}(h:Qej N M mk){s t:Nat}{v:Int} (hs:∀ y,N.ar[s]?=some y→mk.getD y.2.1.toNat false=true) (he:Qgr N mk s t v):Qgr M mk s t v:=by
 have hs':∀ y,M.ar[s]?=some y→mk.getD y.2.1.toNat false=true:=fun y hy=>by
  obtain ⟨y',e,_,q2⟩:=h.kin.al.get hy;rw [←q2];exact hs y' e
 rcases he with ⟨h1,h2⟩|⟨h1,h2⟩
 · exact .inl ⟨h.out hs h1,fun c hc=>h2 c (h.symm.out hs' hc)⟩
 · exact .inr ⟨h1,fun c hc=>h2 c (h.symm.out hs' hc)⟩
--ENDPLAIN
--BEGINPLAIN
abbrev Chn:=Int×Int×Int×Int×Int
def Chn.w (c:Chn):Int:=c.2.2.2.2
def Chn.key (c:Chn):Int×Int×Int×Int:=(c.1,c.2.1,c.2.2.1,c.2.2.2.1)
structure Qgy (N:Qai) (c:Chn) (a:Nat):Prop where
 k:c.1=1
 at_:c.2.1=(a:Int)
 i:c.2.2.1=0
 o:c.2.2.2.1=0
 lt:a<N.ar.length
 w:wOk c.w=true
structure Qcc (N:Qai) (c:Chn) (p i:Nat) (t:Qby):Prop where
 k:c.1=2
 at_:c.2.1=(p:Int)
 tt:N.ts[p]?=some t
 in0:0≤c.2.2.1
 in1:c.2.2.1<t.ins
 out0:0≤c.2.2.2.1
 out1:c.2.2.2.1<t.outs
 i:i=c.2.2.1.toNat*t.outs.toNat+c.2.2.2.1.toNat
 w:wOk c.w=true
def ChOk (N:Qai)(c:Chn):Prop:=(∃ a,Qgy N c a)∨∃ p i t,Qcc N c p i t
structure Qcj (N:Qai) (l:List Chn):Prop where
 all:∀ c∈l,ChOk N c
 keys:(l.map Chn.key).Nodup
def Qpa (N:Qai)(c:Chn):Qai :=
 if c.1=1 then (match N.ar[c.2.1.toNat]? with|some (x,y,_)=>N.setW c.2.1.toNat x y c.w|none=>N)
 else (match N.ts[c.2.1.toNat]? with|some t=>N.bend c.2.1.toNat (t.turn (c.2.2.1.toNat*t.outs.toNat+c.2.2.2.1.toNat) c.w)|none=>N)
def Qdq (N:Qai)(l:List Chn):Qai:=l.foldl Qpa N
theorem Qib (N:Qai)(c:Chn)(l:List Chn):Qdq N (c::l)=Qdq (Qpa N c) l:=rfl
theorem appN_app (N:Qai)(l m:List Chn):Qdq N (l ++m)=Qdq (Qdq N l) m:=by simp [Qdq]
theorem Qgy.eq {N:Qai}{c:Chn}{a:Nat}(h:Qgy N c a){x y z:Int} (ha:N.ar[a]?=some (x,y,z)):Qpa N c=N.setW a x y c.w:=by
 unfold Qpa;have e:c.2.1.toNat=a:=by rw [h.at_,Yl]
 rw [if_pos h.k,e,ha]
theorem Qcc.eq {N:Qai}{c:Chn}{p i:Nat}{t:Qby}(h:Qcc N c p i t):Qpa N c=N.bend p (t.turn i c.w):=by
 unfold Qpa;have e:c.2.1.toNat=p:=by rw [h.at_,Yl]
 rw [if_neg (by rw [h.k];decide),e,h.tt];simp only;rw [←h.i]
theorem Qcc.lt {N:Qai}(hN:Qav N){c:Chn}{p i:Nat}{t:Qby}(h:Qcc N c p i t):i<t.costs.length:=by
 have ht:=hN.tabs t (Zm h.tt);have hl:=ht.len;obtain ⟨a,ha⟩:∃ a:Nat,c.2.2.1=a:=⟨c.2.2.1.toNat,by have:=h.in0;omega⟩;obtain ⟨b,hb⟩:∃ b:Nat,c.2.2.2.1=b:=⟨c.2.2.2.1.toNat,by have:=h.out0;omega⟩;obtain ⟨m,hm⟩:∃ m:Nat,t.ins=m:=⟨t.ins.toNat,by have:=ht.i0;omega⟩;obtain ⟨n,hn⟩:∃ n:Nat,t.outs=n:=⟨t.outs.toNat,by have:=ht.o0;omega⟩;have h1:=h.in1;have h2:=h.out1;have hi:=h.i;rw [ha,hm] at h1;rw [hb,hn] at h2;rw [ha,hb,hn,Yl,Yl,Yl] at hi;rw [hm,hn] at hl;have hl:t.costs.length=m*n:=by exact_mod_cast hl
 rw [hi,hl];have h3:(a+1)*n≤m*n:=Nat.mul_le_mul_right n (by omega);rw [Nat.add_mul,Nat.one_mul] at h3;omega
structure Qed (N M:Qai):Prop where
 kin:Kin N M
 tl:M.ts.length=N.ts.length
 tab:∀ (p:Nat) (t:Qby),N.ts[p]?=some t→∃ t',M.ts[p]?=some t'∧t'.ins=t.ins∧t'.outs=t.outs∧t'.costs.length=t.costs.length
theorem Qed.refl (N:Qai):Qed N N:=⟨Kin.refl N,rfl,fun _ t h=>⟨t,h,rfl,rfl,rfl⟩⟩
theorem Qed.trans {N M K:Qai}(h:Qed N M)(g:Qed M K):Qed N K:=⟨h.kin.trans g.kin,g.tl.trans h.tl,fun p t ht=>by
 obtain ⟨t1,a1,a2,a3,a4⟩:=h.tab p t ht;obtain ⟨t2,b1,b2,b3,b4⟩:=g.tab p t1 a1;exact ⟨t2,b1,b2.trans a2,b3.trans a3,b4.trans a4⟩⟩
theorem Qed.symm {N M:Qai}(h:Qed N M):Qed M N:=⟨h.kin.symm,h.tl.symm,fun p t ht=>by
 have hp:p<N.ts.length:=by rw [←h.tl];exact (Zs ht).1
 obtain ⟨t',h1,h2,h3,h4⟩:=h.tab p _ (Zg hp);rw [ht] at h1
 cases h1
 exact ⟨_,Zg hp,h2.symm,h3.symm,h4.symm⟩⟩
theorem Qge {N:Qai}{c:Chn}(h:ChOk N c):Qed N (Qpa N c):=by
 rcases h with ⟨a,h⟩|⟨p,i,t,h⟩
 · obtain ⟨⟨x,y,z⟩,ha⟩:∃ e,N.ar[a]?=some e:=⟨_,Zg h.lt⟩
   rw [h.eq ha];exact ⟨⟨rfl,Qkh ha _⟩,rfl,fun p t ht=>⟨t,ht,rfl,rfl,rfl⟩⟩
 · rw [h.eq]
   refine ⟨⟨rfl,rfl,rfl⟩,Yq ..,fun q s hs=>?_⟩
   by_cases e:p=q
   · subst e
     rw [h.tt] at hs
     cases hs
     exact ⟨_,Yg (Zs h.tt).1,rfl,rfl,Yq ..⟩
   · exact ⟨s,by show (N.ts.set p _)[q]?=_;rw [Yh e];exact hs,rfl,rfl,rfl⟩
theorem Qwo {N:Qai}(hN:Qav N){c:Chn}(h:ChOk N c):Qav (Qpa N c):=by
 rcases h with ⟨a,h⟩|⟨p,i,t,h⟩
 · obtain ⟨⟨x,y,z⟩,ha⟩:∃ e,N.ar[a]?=some e:=⟨_,Zg h.lt⟩
   rw [h.eq ha];exact hN.setW ha h.w
 · rw [h.eq]
   exact hN.bend h.tt h.w
theorem Qgy.shape {N M:Qai}(hs:Qed N M){c:Chn}{a:Nat}(h:Qgy N c a):Qgy M c a:=⟨h.k,h.at_,h.i,h.o,by rw [hs.kin.al.len];exact h.lt,h.w⟩
theorem Qcc.shape {N M:Qai}(hs:Qed N M){c:Chn}{p i:Nat}{t:Qby}(h:Qcc N c p i t):∃ t',Qcc M c p i t'∧t'.ins=t.ins∧t'.outs=t.outs∧t'.costs.length=t.costs.length:=by
 obtain ⟨t',h1,h2,h3,h4⟩:=hs.tab p t h.tt;exact ⟨t',⟨h.k,h.at_,h1,h.in0,by rw [h2];exact h.in1,h.out0,by rw [h3];exact h.out1,by rw [h3];exact h.i,h.w⟩,h2,h3,h4⟩
theorem ChOk.shape {N M:Qai}(hs:Qed N M){c:Chn}(h:ChOk N c):ChOk M c:=by
 rcases h with ⟨a,h⟩|⟨p,i,t,h⟩
 · exact .inl ⟨a,h.shape hs⟩
 · obtain ⟨t',h',_⟩:=h.shape hs
   exact .inr ⟨p,i,t',h'⟩
theorem Qcj.tail {N:Qai}{c:Chn}{l:List Chn} (h:Qcj N (c::l)):Qcj (Qpa N c) l :=
 ⟨fun d hd=>(h.all d (List.mem_cons_of_mem _ hd)).shape (Qge (h.all c (List.mem_cons_self ..))),(List.nodup_cons.1 (by simpa using h.keys)).2⟩
theorem Qcj.other {N:Qai}{c:Chn}{l:List Chn} (h:Qcj N (c::l)) {d:Chn} (hd:d∈l):d.key≠c.key:=fun e=>by
 have:=(List.nodup_cons.1 (show (c.key::l.map Chn.key).Nodup by simpa using h.keys)).1
 exact this (List.mem_map.2 ⟨d,hd,e⟩)
theorem Qdj:∀ {l:List Chn}{N:Qai},Qcj N l→Qed N (Qdq N l)
 | [],N,_=>Qed.refl N
 | c::l,N,h=>by
  rw [Qib];exact (Qge (h.all c (List.mem_cons_self ..))).trans (Qdj h.tail)
theorem Qpo:∀ {l:List Chn}{N:Qai},Qav N→Qcj N l→Qav (Qdq N l)
 | [],_,hN,_=>hN
 | c::l,_,hN,h=>by
  rw [Qib];exact Qpo (Qwo hN (h.all c (List.mem_cons_self ..))) h.tail
theorem Qgy.key {N M:Qai}{c d:Chn}{a:Nat}(h:Qgy N c a)(g:Qgy M d a):d.key=c.key:=by
 unfold Chn.key;rw [h.k,h.at_,h.i,h.o,g.k,g.at_,g.i,g.o]
theorem div_pair {a b a' b' n:Nat}(h:b<n)(h':b'<n)(e:a*n+b=a'*n+b'):a=a'∧b=b':=by
 have h1:(a*n+b) / n=a:=by rw [Nat.mul_comm,Nat.mul_add_div (by omega),Nat.div_eq_of_lt h,Nat.add_zero]
 have h2:(a'*n+b') / n=a':=by rw [Nat.mul_comm,Nat.mul_add_div (by omega),Nat.div_eq_of_lt h',Nat.add_zero]
 rw [e] at h1;have:a=a':=by omega
 subst this;exact ⟨rfl,by omega⟩
theorem Qcc.key {N M:Qai}{c d:Chn}{p i:Nat}{t s:Qby}(h:Qcc N c p i t)(g:Qcc M d p i s)(ho:s.outs=t.outs):d.key=c.key:=by
 have h1:=h.i;have g1:=g.i;rw [ho] at g1;have a1:=h.in0;have a2:=h.out0;have a3:=h.out1;have b1:=g.in0;have b2:=g.out0;have b3:=g.out1;rw [ho] at b3;obtain ⟨e1,e2⟩:=div_pair (a:=c.2.2.1.toNat) (b:=c.2.2.2.1.toNat) (a':=d.2.2.1.toNat) (b':=d.2.2.2.1.toNat) (n:=t.outs.toNat) (by omega) (by omega) (by rw [←h1,←g1]);unfold Chn.key;rw [h.k,h.at_,g.k,g.at_,show d.2.2.1=c.2.2.1 by omega,show d.2.2.2.1=c.2.2.2.1 by omega]
theorem Qoe:∀ {l:List Chn}{N:Qai},Qcj N l→∀ {a:Nat} {x y z:Int},N.ar[a]?=some (x,y,z) →
 ∃ u,(Qdq N l).ar[a]?=some (x,y,u)∧(∀ c∈l,Qgy N c a→u=c.w)∧((∀ c∈l,¬Qgy N c a)→u=z)
 | [],N,_,a,x,y,z,ha=>⟨z,ha,fun c hc=>by simp at hc,fun _=>rfl⟩
 | c::l,N,h,a,x,y,z,ha=>by
  rw [Qib];have hs:=Qge (h.all c (List.mem_cons_self ..))
  by_cases hc:Qgy N c a
  · have h1:(Qpa N c).ar[a]?=some (x,y,c.w):=by
     rw [hc.eq ha];exact Yg hc.lt
    obtain ⟨u,e1,e2,e3⟩:=Qoe h.tail h1;have hu:u=c.w:=e3 (fun d hd hds=>h.other hd (hc.key hds));refine ⟨u,e1,fun d hd hds=>?_,fun hn=>absurd hc (hn c (List.mem_cons_self ..))⟩
    rcases List.mem_cons.1 hd with rfl|hd
    · exact hu
    · exact e2 d hd (hds.shape hs)
  · have h1:(Qpa N c).ar[a]?=some (x,y,z):=by
     rcases h.all c (List.mem_cons_self ..) with ⟨b,hb⟩|⟨p,i,t,hb⟩
     · obtain ⟨⟨x',y',z'⟩,hb'⟩:∃ e,N.ar[b]?=some e:=⟨_,Zg hb.lt⟩
       rw [hb.eq hb']
       show (N.ar.set b _)[a]?=_
       rw [Yh (fun e=>hc (by rw [←e];exact hb))];exact ha
     · rw [hb.eq]
       exact ha
    obtain ⟨u,e1,e2,e3⟩:=Qoe h.tail h1;refine ⟨u,e1,fun d hd hds=>?_,fun hn=>e3 (fun d hd hds=>hn d (List.mem_cons_of_mem _ hd) (hds.shape hs.symm))⟩
    rcases List.mem_cons.1 hd with rfl|hd
    · exact absurd hds hc
    · exact e2 d hd (hds.shape hs)
theorem Qmz:∀ {l:List Chn}{N:Qai},Qav N→Qcj N l→∀ {p:Nat} {t:Qby},N.ts[p]?=some t →
 ∃ t',(Qdq N l).ts[p]?=some t'∧t'.ins=t.ins∧t'.outs=t.outs∧t'.costs.length=t.costs.length ∧
  ∀ i,(∀ c∈l,Qcc N c p i t→t'.costs[i]?=some c.w)∧((∀ c∈l,¬Qcc N c p i t)→t'.costs[i]?=t.costs[i]?)
 | [],N,_,_,p,t,ht=>⟨t,ht,rfl,rfl,rfl,fun i=>⟨fun c hc=>by simp at hc,fun _=>rfl⟩⟩
 | c::l,N,hN,h,p,t,ht=>by
  rw [Qib];have hcc:=h.all c (List.mem_cons_self ..);have hs:=Qge hcc;have hN1:=Qwo hN hcc
  have key:∃ t1,(Qpa N c).ts[p]?=some t1∧t1.ins=t.ins∧t1.outs=t.outs∧t1.costs.length=t.costs.length ∧
   ∀ i,(Qcc N c p i t→t1.costs[i]?=some c.w)∧(¬Qcc N c p i t→t1.costs[i]?=t.costs[i]?):=by
   rcases hcc with ⟨b,hb⟩|⟨q,j,s,hb⟩
   · obtain ⟨⟨x',y',z'⟩,hb'⟩:∃ e,N.ar[b]?=some e:=⟨_,Zg hb.lt⟩
     rw [hb.eq hb'];exact ⟨t,ht,rfl,rfl,rfl,fun i=>⟨fun hbd=>by have:=hb.k;rw [hbd.k] at this;omega,fun _=>rfl⟩⟩
   · have hjl:=hb.lt hN
     rw [hb.eq]
     by_cases e:q=p
     · subst e
       have e2:s=t:=by have:=hb.tt;rw [ht] at this;exact (Yv this).symm
       subst e2;refine ⟨s.turn j c.w,Yg (Zs ht).1,rfl,rfl,Yq ..,fun i=>⟨fun hbd=>?_,fun hnb=>?_⟩⟩
       · have:i=j:=by rw [hbd.i,hb.i]
         subst this;exact Yg hjl
       · exact Yh (fun e=>hnb (by rw [←e];exact hb))
     · refine ⟨t,by show (N.ts.set q _)[p]?=_;rw [Yh e];exact ht,rfl,rfl,rfl,fun i=>⟨fun hbd=>?_,fun _=>rfl⟩⟩
       have h1:=hb.at_;have h2:=hbd.at_;omega
  obtain ⟨t1,k1,k2,k3,k4,k5⟩:=key;obtain ⟨t',e1,e2,e3,e4,e5⟩:=Qmz hN1 h.tail k1
  have hmove:∀ {d:Chn} {i:Nat},Qcc N d p i t→Qcc (Qpa N c) d p i t1:=fun hd =>
   ⟨hd.k,hd.at_,k1,hd.in0,by rw [k2];exact hd.in1,hd.out0,by rw [k3];exact hd.out1,by rw [k3];exact hd.i,hd.w⟩
  have hback:∀ {d:Chn} {i:Nat},Qcc (Qpa N c) d p i t1→Qcc N d p i t:=fun hd =>
   ⟨hd.k,hd.at_,ht,hd.in0,by rw [←k2];exact hd.in1,hd.out0,by rw [←k3];exact hd.out1,by rw [←k3];exact hd.i,hd.w⟩
  refine ⟨t',e1,e2.trans k2,e3.trans k3,e4.trans k4,fun i=>⟨fun d hd hdb=>?_,fun hn=>?_⟩⟩
  · rcases List.mem_cons.1 hd with rfl|hd
    · rw [(e5 i).2 (fun d2 hd2 hb2=>h.other hd2 (hdb.key (hback hb2) rfl)),(k5 i).1 hdb]
    · exact (e5 i).1 d hd (hmove hdb)
  · rw [(e5 i).2 (fun d hd hdb=>hn d (List.mem_cons_of_mem _ hd) (hback hdb)),(k5 i).2 (hn c (List.mem_cons_self ..))]
--ENDPLAIN
end Go.Proofs.YthoagdpakddbdaaGreatDoor
