/- Parts of the proof: One, All, Aq. -/
import Derived.Test.YthoagdpakddbdaaGreatDoorK1
import Derived.Test.YthoagdpakddbdaaGreatDoorK18
import Derived.Laws.CopyOwn
namespace Go.Proofs.YthoagdpakddbdaaGreatDoor
open Go.RowKit Go.Proofs.Tryz
attribute [local go_sem ↓] Go.wp_at_zero Go.wp_at_succ
def OneR (w:World)(N:Qaj)(l:List Int)(c:Nat)(x:Qal)(e:Ending)(w':World):Prop :=
 ∃ (A:Option Addr) (cp:Nat) (ces:List Int),e=.returned (.slice A (szG x) cp)∧RdI w' A (szG x) ces∧(∀ (a b s t:Nat),x.1[a]?=some (s:Int)→x.2[b]?=some (t:Int)→Qhk N (Qdz l c) s t (ces.getD (a*x.2.length+b) 0))∧Below w.heap.size w w'
def LowE (N:Qaj) (ls:List (List Int)) (i:Nat) (costs:List Int):Prop:=∀ (lb:List Int) (q:Nat) (y:Qal) (a b s t:Nat),ls[i]?=some lb→(gateRow N.ar lb)[q]?=some y→y.1[a]?=some (s:Int)→y.2[b]?=some (t:Int)→Qhk N (Qdz lb q) s t (costs.getD (Qhl (gatesOf N.ar ls) (gateRow N.ar lb) i q y a b) 0)
theorem LowE.ex {N:Qaj}(hok:Qas N) {ls:List (List Int)} {lb:List Int} {j:Nat} {costs:List Int} (h:LowE N ls j costs) (hb:ls[j]?=some lb) (hBv:Qen N.vs.length lb) {l:List Int} {c:Nat} :
 ∀ (a m:Nat) (y z:Tri),Qeb N l lb c a→N.ar[a]?=some y→N.ar[m]?=some z→Qaf lb z.1=Qaf lb y.2.1→Qaf lb z.2.1≠Qaf lb y.2.1→∃ v,Qhk N (Qdz lb (Qaf lb y.2.1)) a m v:=fun a m y z hk hy hz h1 h2=>by
 obtain ⟨y',hy',k1,_⟩:=hk;rw [hy] at hy'
 cases hy'
 have ho:=hok.arcs y (Zm hy);have o0:=ho.g0;have o1:=ho.g1;obtain ⟨u,hu⟩:∃ u:Nat,y.2.1=(u:Int):=⟨y.2.1.toNat,by omega⟩;have e1:=Qcu (l:=lb) (v:=u) (by rw [hBv.len];omega);rw [←hu] at e1;obtain ⟨q,hq,g,hg⟩:=Qhq (ar:=N.ar) hBv (Zm e1);rw [hq] at h1 h2 ⊢;obtain ⟨k,hk⟩:=List.getElem?_of_mem ((Qds hg).2 ⟨y,hy,by rw [←hq];exact k1,hq⟩);obtain ⟨b,hb'⟩:=List.getElem?_of_mem ((Qcc hg).2 ⟨z,hz,h1,h2⟩);exact ⟨_,h lb q g k b a m hb hg hk hb'⟩
set_option maxHeartbeats 2000000 in
theorem one_ok (w:World)(g o i c:Nat)(N:Qaj) (ls:List (List Int)) (l:List Int) (x:Qal) (CA:Option Addr) (NC cC:Nat) (costs:List Int) (hg:Qgk w g N) (hok:Qas N) (ho:Qex w o N.ar ls) (hP:Qcl N.vs.length ls) (hl:ls[i]?=some l) (hx:(gateRow N.ar l)[c]?=some x)
 (hc:RdI w CA NC costs) (hNC:Qbo (gatesOf N.ar ls)≤NC) (hNC2:NC≤1000000000) (hcost:∀ z∈costs,0≤z∧z≤1152921504606846976) (hlow:∀ j,i=j+1→LowE N ls j costs) :
 Calls prog 48 #[.pointer (some ⟨g,0,none⟩),.pointer (some ⟨o,0,none⟩),.int .i64 ((i:Int)+1),.int .i64 c,.slice CA NC cC] w (OneR w N l c x):=by
 have hla:=hok.la;have hL6:ls.length≤6:=hP.l6;have hi5:(i:Int)≤5:=by have:=(Zs hl).1;omega
 have hLv:=hP.lvl l (Zm hl);have hcM:c<(Qam l).toNat:=by rw [←Qan N.ar l];exact (Zs hx).1
 have hcm:(c:Int)<((Qam l).toNat:Int):=by omega
 have HCE:=Zh (Qfg o i _ N.ar ls l w ho hl (by omega) rfl);have HGT:=Zh (Qjt o i c N.ar ls l x w ho hl (by omega) hx (by omega));have HG:=Zh hg;have HO:=Zh ho;have HP:=Zh hP;have HL:=Zh hl;have HX:=Zh hx;have HC:=Zh hc;have HCO:=Zh hcost;have HLOW:=Zh hlow;have HLL:=Zh hLv.len;have hgx:=Qbk hx;obtain ⟨MM,hMM⟩:∃ MM,MM=(Qam l).toNat:=⟨_,rfl⟩;rw [←hMM] at HCE hcm;clear hg ho hP hl hx hc hcost hlow hLv hcM hMM
 go_enter func48,ntmps48
 go_wp2_with fail
 with_reducible refine HCE.out.mono ?_
 rintro e w' ⟨rfl,rfl⟩
 go_wp2_with fail
 with_reducible refine HGT.out.mono ?_
 rintro e w1 ⟨B1,m1,d1,B2,m2,d2,rfl,ho1,ho2,hb1⟩;have hm1:x.1.length=m1:=by have:=ho1.1;simpa [Qad] using this
 have hm2:x.2.length=m2:=by have:=ho2.1;simpa [Qad] using this
 have HO1:=Zh ho1;have HO2:=Zh ho2;have HB1:=Zh hb1;clear ho1 ho2 hb1
 by_cases h10:m1=0
 · have HE:=Zh h10
   subst h10
   go_wp2_with fail
   go_ret
   refine ⟨none,0,[],by unfold szG;rw [hm1,Nat.zero_mul];rfl,⟨by unfold szG;rw [hm1,Nat.zero_mul];rfl,fun i x h=>by simp at h⟩,fun a b s t h=>?_,(HB1.out.trans ((Zr _ _).alloc (Zn _) _ |>.mono HB1.out.size))⟩;have:=(Zs h).1;omega
 · have e10:((m1:Int) == 0)=false:=by simp;omega
   by_cases h20:m2=0
   · have HE:=Zh h20
     subst h20
     go_wp2_with fail
     go_ret
     refine ⟨none,0,[],by unfold szG;rw [hm2,Nat.mul_zero];rfl,⟨by unfold szG;rw [hm2,Nat.mul_zero];rfl,fun i x h=>by simp at h⟩,fun a b s t _ h=>?_,(HB1.out.trans ((Zr _ _).alloc (Zn _) _ |>.mono HB1.out.size))⟩;have:=(Zs h).1;omega
   · have e20:((m2:Int) == 0)=false:=by simp;omega
     rcases Nat.eq_zero_or_pos i with hi0|hi0
     · subst hi0
       go_wp2_with fail
       (refine Qah ?_;intro w2 hw2)
       have hb2:Below w1.heap.size w1 w2:=by rw [hw2];exact Qae
       have hX2:Blk w2 w1.heap.size 105 #[.slice B1 m1 d1,.slice B2 m2 d2]:=by rw [hw2];exact Blk.new _ _ _
       clear hw2;have x1:w2.cell? ⟨w1.heap.size,1,none⟩=some (.slice B2 m2 d2):=Zq hX2;have HB2:=Zh (Zb HB1.out hb2);have HBA:=Zh (fun V (hV:Below w2.heap.size w2 V)=>Qtr V g N l c x B1 B2 m1 m2 d1 d2 (HG.out.below (Zb (Zb HB1.out hb2) hV)) hok HLL.out HX.out ((HO1.out.below hb2).rds.rdI.below hV) ((HO2.out.below hb2).rds.rdI.below hV));have HSX:=Zh (show ∀ V,Blk V w1.heap.size 105 #[.slice B1 m1 d1,.slice B2 m2 d2]→V.cell? ⟨w1.heap.size,0,none⟩=some (.slice B1 m1 d1)∧V.cell? ⟨w1.heap.size,1,none⟩=some (.slice B2 m2 d2) from fun V hV=>⟨hV.two.1,hV.two.2.1⟩)
       clear hb2;refine wp_region_held_drew (S:=fun V=>Blk V w1.heap.size 105 #[.slice B1 m1 d1,.slice B2 m2 d2]) (by kernel_rfl) hX2.drew (fun _=>?_);refine tz 0 37 ?_;refine tz 1 38 ?_;refine tz 3 40 ?_;refine tz 4 41 ?_;refine tz 5 42 ?_;refine Zk 2 (fun K hK=>?_);go_simp;with_reducible refine (HBA.out _ (Zr _ _).drew).mono ?_
       rintro e w3 ⟨SA,sc,c9,arcs,L,rfl,hS,hNx,hFA,hFl,hnil,hnd,har,hins,hn1,hb3⟩;have hb23:Below w2.heap.size w2 w3:=(Zr _ _).drew.trans hb3;have hX3:=hX2.below hb23 hX2.lt;go_simp;refine hK.out _ _ hX3 (fun _=>?_);clear hK K;refine Zk 6 (fun K hK=>?_);go_simp
       have HLE:=Zh (Qqh w3 arcs.length m1 sc m2 _ SA _ (List.range m1) L MB 4294967296 hS (fun s hs=>by have:=List.mem_range.1 hs;omega) har (by omega) (by omega) (by omega) hNx hFl hnil (fun s hs p d hr=>by
        have hs':=List.mem_range.1 hs;exact hFA.bound hok HLL.out HX.out (Zg (by omega)) hnd p d hr) (by unfold MB;omega) (by omega) (by unfold MB;omega))
       have HFA:=Zh hFA;have HINS:=Zh hins;have HB3:=Zh (Zb HB2.out hb23);clear hS hNx hFA hFl hnil hnd har hins hn1 hb3 hb23;with_reducible refine HLE.out.mono ?_
       rintro e w4 ⟨bb,ces,rfl,hbb,hcl,hlst,hbs,hb4⟩;have hX4:=hX3.below hb4 hX3.lt;have HBB:=Zh hbb;have HCL:=Zh hcl;have HLST:=Zh hlst;have HB4:=Zh (Zb HB3.out hb4);clear hbb hcl hlst hbs hb4;go_simp;refine hK.out _ _ hX4 (fun _=>?_);clear hK K;refine tz 7 10 ?_;refine Zd ?_
       go_wp2_with fail
       go_ret
       have hsz:szG x=m1*m2:=by unfold szG;rw [hm1,hm2]
       refine ⟨some ⟨bb,0,none⟩,m1*m2,ces,by rw [hsz];rfl,by rw [hsz];exact HBB.out.rdI HCL.out,fun a b s t ha hb=>?_,HB4.out⟩;have ha':=(Zs ha).1;have hb':=(Zs hb).1;rw [hm2];exact HFA.out.entry hok HLL.out HX.out (HINS.out a s ha) hb (HLST.out a a b (by rw [List.getElem?_range (by omega)]) (by omega))
     · obtain ⟨j,rfl⟩:∃ j,i=j+1:=⟨i-1,by omega⟩
       obtain ⟨lb,hlb⟩:∃ lb,ls[j]?=some lb:=⟨_,Zg (by have:=(Zs HL.out).1;omega)⟩;have hE:=HLOW.out j rfl;have hBv:=HP.out.lvl lb (Zm hlb);have hnest:=HP.out.nest j lb l hlb HL.out
       have hbt:((x.2.getD 0 0).toNat:Int)∈x.2:=by
        obtain ⟨z,hz⟩:∃ z,x.2[0]?=some z:=⟨_,Zg (by omega)⟩;obtain ⟨m,rfl⟩:=Qfi HX.out hz;rw [List.getD_eq_getElem?_getD,hz];exact Zm hz
       have HEX:=Zh (hE.ex hok hlb hBv (l:=l) (c:=c));have e30:((j:Int)+1+1 == 1)=false:=by simp;omega
       have HLB:=Zh hlb;have HEE:=Zh hE;have HBV:=Zh hBv;have HNE:=Zh hnest;have HBT:=Zh hbt;clear hlb hE hBv hnest hbt
       go_wp2_with fail
       (refine Qah ?_;intro w2 hw2)
       have hb2:Below w1.heap.size w1 w2:=by rw [hw2];exact Qae
       have hX2:Blk w2 w1.heap.size 105 #[.slice B1 m1 d1,.slice B2 m2 d2]:=by rw [hw2];exact Blk.new _ _ _
       clear hw2;have hbw2:=Zb HB1.out hb2;have HB2:=Zh hbw2;have HBK:=Zh (fun V (hV:Below w2.heap.size w2 V)=>Qvh V g o j c N ls l lb x B1 B2 CA m1 m2 d1 d2 NC cC costs (HG.out.below (Zb hbw2 hV)) hok (HO.out.below (Zb hbw2 hV)) HP.out HL.out HLB.out HX.out ((HO1.out.below hb2).rds.rdI.below hV) ((HO2.out.below hb2).rds.rdI.below hV) (HC.out.below (Zb hbw2 hV)) hNC hNC2 HCO.out (fun q y a b s t h1 h2 h3=>HEE.out lb q y a b s t HLB.out h1 h2 h3));have HSX:=Zh (show ∀ V,Blk V w1.heap.size 105 #[.slice B1 m1 d1,.slice B2 m2 d2]→V.cell? ⟨w1.heap.size,0,none⟩=some (.slice B1 m1 d1)∧V.cell? ⟨w1.heap.size,1,none⟩=some (.slice B2 m2 d2) from fun V hV=>⟨hV.two.1,hV.two.2.1⟩)
       clear hb2 hbw2;refine wp_region_held_drew (S:=fun V=>Blk V w1.heap.size 105 #[.slice B1 m1 d1,.slice B2 m2 d2]) (by kernel_rfl) hX2.drew (fun _=>?_);refine tz 0 44 ?_;refine tz 1 45 ?_;refine tz 2 46 ?_;refine tz 3 47 ?_;refine tz 4 48 ?_;refine tz 5 49 ?_;refine tz 7 51 ?_;refine tz 8 52 ?_;refine tz 9 53 ?_;refine Zk 6 (fun K hK=>?_);go_simp;with_reducible refine (HBK.out _ (Zr _ _).drew).mono ?_
       rintro e w3 ⟨SA,sc,cs,cl,cc,pl,starts,L,rfl,hS,hNx,hFB,hnil,hpl,hst,hb3⟩;have hb23:Below w2.heap.size w2 w3:=(Zr _ _).drew.trans hb3;have hX3:=hX2.below hb23 hX2.lt;go_simp;refine hK.out _ _ hX3 (fun _=>?_);clear hK K;refine Zk 10 (fun K hK=>?_);go_simp;have hstl:starts.length=m1:=by have:=hS.1;rw [Qea] at this;exact this
       have hstp:∀ p∈starts,∃ s,pl[p]?=some s:=fun p hp=>by
        obtain ⟨k,hk⟩:=List.getElem?_of_mem hp;have hkl:=(Zs hk).1;obtain ⟨z,hz⟩:∃ z,x.1[k]?=some z:=⟨_,Zg (by omega)⟩;obtain ⟨s,rfl⟩:=Qgs HX.out hz;obtain ⟨p',e1,e2⟩:=hst k s hz;rw [hk] at e1
        cases e1
        exact ⟨s,e2⟩
       have hFl:=hFB.fld hok;rw [hm2] at hFl
       have HLE:=Zh (Qqh w3 pl.length m1 sc m2 _ SA _ starts L MB 70377334112256 hS (fun s hs=>by obtain ⟨s',e⟩:=hstp s hs;exact (Zs e).1) hpl (by omega) (by omega) (by omega) hNx hFl hnil (fun s hs p d hr=>by
        obtain ⟨s',e⟩:=hstp s hs;exact hFB.bound hok HLL.out HBV.out.len HNE.out HX.out HEX.out _ HBT.out e p d hr) (by unfold MB;omega) (by omega) (by unfold MB;omega))
       have HFB:=Zh hFB;have HST:=Zh hst;have HB3:=Zh (Zb HB2.out hb23);clear hS hNx hFB hFl hnil hpl hst hb3 hb23 hstl hstp;with_reducible refine HLE.out.mono ?_
       rintro e w4 ⟨bb,ces,rfl,hbb,hcl,hlst,hbs,hb4⟩;have hX4:=hX3.below hb4 hX3.lt;have HBB:=Zh hbb;have HCL:=Zh hcl;have HLST:=Zh hlst;have HB4:=Zh (Zb HB3.out hb4);clear hbb hcl hlst hbs hb4;go_simp;refine hK.out _ _ hX4 (fun _=>?_);clear hK K;refine tz 11 10 ?_;refine Zd ?_
       go_wp2_with fail
       go_ret
       have hsz:szG x=m1*m2:=by unfold szG;rw [hm1,hm2]
       refine ⟨some ⟨bb,0,none⟩,m1*m2,ces,by rw [hsz];rfl,by rw [hsz];exact HBB.out.rdI HCL.out,fun a b s t ha hb=>?_,HB4.out⟩;have ha':=(Zs ha).1;have hb':=(Zs hb).1;rw [hm2];obtain ⟨p,e1,e2⟩:=HST.out a s ha;exact HFB.out.entry hok HLL.out HBV.out.len HNE.out HX.out HEX.out e2 hb (HLST.out a p b e1 (by omega))
def Qdg (N:Qaj) (ls:List (List Int)) (i c:Nat) (cl:List Int):Prop:=∀ (k:Nat) (lb:List Int) (q:Nat) (y:Qal) (a b s t:Nat),k<i∨k=i∧q<c→ls[k]?=some lb→(gateRow N.ar lb)[q]?=some y→y.1[a]?=some (s:Int)→y.2[b]?=some (t:Int)→Qhk N (Qdz lb q) s t (cl.getD (Qhl (gatesOf N.ar ls) (gateRow N.ar lb) k q y a b) 0)
def Qhf (cl:List Int):Prop:=∀ z∈cl,0≤z∧z≤1152921504606846976
theorem Qjc {L cs:List Int}{off k:Nat}(h:off+cs.length≤L.length) :
 (splice L off cs).getD k 0=if k<off then L.getD k 0 else if k<off+cs.length then cs.getD (k-off) 0 else L.getD k 0:=by
 unfold splice;simp only [List.getD_eq_getElem?_getD]
 by_cases h1:k<off
 · rw [if_pos h1,List.getElem?_append_left (by simp;omega),List.getElem?_take_of_lt h1]
 · rw [if_neg h1]
   have hl:(L.take off).length=off:=by rw [List.length_take];omega
   rw [List.getElem?_append_right (by omega),hl]
   by_cases h2:k<off+cs.length
   · rw [if_pos h2,List.getElem?_append_left (by omega)]
   · rw [if_neg h2,List.getElem?_append_right (by omega),List.getElem?_drop]
     congr 2
     omega
theorem Qry {L cs:List Int}{off:Nat}{z:Int}(h:z∈splice L off cs):z∈L∨z∈cs:=by
 unfold splice at h;simp only [List.mem_append] at h
 rcases h with h|h|h
 · exact .inl (List.mem_of_mem_take h)
 · exact .inr h
 · exact .inl (List.mem_of_mem_drop h)
theorem Qgy (L cs:List Int)(off:Nat):splice (Qad L) off (Qad cs)=Qad (splice L off cs):=by
 unfold splice Qad;simp [List.map_take,List.map_drop]
theorem Qoh {N:Qaj}{l:List Int}{c:Nat}{x:Qal} (hx:(gateRow N.ar l)[c]?=some x) {k:Nat} (hk:k<szG x) :
 ∃ a b s t:Nat,k=a*x.2.length+b∧x.1[a]?=some (s:Int)∧x.2[b]?=some (t:Int):=by
 have hk2:k<x.1.length*x.2.length:=hk
 generalize hm:x.2.length=m at hk2
 have hn2:0<m:=by
  rcases Nat.eq_zero_or_pos m with h|h
  · rw [h,Nat.mul_zero] at hk2;omega
  · exact h
 have hb:k % m<m:=Nat.mod_lt k hn2
 have ha:k / m<x.1.length:=(Nat.div_lt_iff_lt_mul hn2).2 hk2
 have e:k=k / m*m+k % m:=by have:=Nat.div_add_mod k m;rw [Nat.mul_comm] at this;exact this.symm
 obtain ⟨a,h1⟩:∃ a,a=k / m:=⟨_,rfl⟩;obtain ⟨b,h2⟩:∃ b,b=k % m:=⟨_,rfl⟩;rw [←h1] at ha e;rw [←h2] at hb e;obtain ⟨z1,h3⟩:∃ z,x.1[a]?=some z:=⟨_,Zg ha⟩;obtain ⟨z2,h4⟩:∃ z,x.2[b]?=some z:=⟨_,Zg (by rw [hm];exact hb)⟩;obtain ⟨s,hs⟩:=Qgs hx h3;obtain ⟨t,ht⟩:=Qfi hx h4;exact ⟨a,b,s,t,e,by rw [h3,hs],by rw [h4,ht]⟩
theorem Qhf.next {N:Qaj}(hok:Qas N){l:List Int}{c off:Nat}{x:Qal}{cl ces:List Int}(h:Qhf cl) (hx:(gateRow N.ar l)[c]?=some x) (hl:ces.length=szG x)
 (he:∀ (a b s t:Nat),x.1[a]?=some (s:Int)→x.2[b]?=some (t:Int)→Qhk N (Qdz l c) s t (ces.getD (a*x.2.length+b) 0)):Qhf (splice cl off ces):=fun z hz=>by
 rcases Qry hz with h1|h1
 · exact h z h1
 · obtain ⟨k,hk⟩:=List.getElem?_of_mem h1
   have hk':=(Zs hk).1;obtain ⟨a,b,s,t,e,h2,h3⟩:=Qoh hx (k:=k) (by omega);have h4:=he a b s t h2 h3;rw [←e,List.getD_eq_getElem?_getD,hk] at h4;have:=h4.bd hok;simp at this;omega
theorem Qdg.next {N:Qaj} {ls:List (List Int)} {i c:Nat} {l:List Int} {x:Qal} {cl ces:List Int} (h:Qdg N ls i c cl) (hl:ls[i]?=some l) (hx:(gateRow N.ar l)[c]?=some x) (hn:ces.length=szG x)
 (hfit:Qbo ((gatesOf N.ar ls).take i)+Qde ((gateRow N.ar l).take c)+szG x≤cl.length)
 (he:∀ (a b s t:Nat),x.1[a]?=some (s:Int)→x.2[b]?=some (t:Int)→Qhk N (Qdz l c) s t (ces.getD (a*x.2.length+b) 0)) :
 Qdg N ls i (c+1) (splice cl (Qbo ((gatesOf N.ar ls).take i)+Qde ((gateRow N.ar l).take c)) ces):=fun k lb q y a b s t hk hb hy h1 h2=>by
 have ha':=(Zs h1).1;have hb':=(Zs h2).1;rw [Qjc (by omega)]
 by_cases hkq:k<i∨k=i∧q<c
 · have hlt:Qhl (gatesOf N.ar ls) (gateRow N.ar lb) k q y a b<Qbo ((gatesOf N.ar ls).take i)+Qde ((gateRow N.ar l).take c):=by
    rcases hkq with h3|⟨rfl,h3⟩
    · have e1:=Qit (Qbf (ar:=N.ar) hb) hy ha' hb'
      have e2:=Qfd (gatesOf N.ar ls) (show k+1≤i from h3)
      omega
    · rw [hl] at hb
      cases hb
      have e1:=Qpa (gs:=gatesOf N.ar ls) (i:=k) hy ha' hb';have e2:=Qez (gateRow N.ar l) (show q+1≤c from h3)
      omega
   rw [if_pos hlt];exact h k lb q y a b s t hkq hb hy h1 h2
 · obtain ⟨rfl,rfl⟩:k=i∧q=c:=by omega
   rw [hl] at hb
   cases hb
   rw [hx] at hy
   cases hy
   have hin:a*x.2.length+b<szG x:=by
    unfold szG;have e1:(a+1)*x.2.length≤x.1.length*x.2.length:=Nat.mul_le_mul_right _ ha';rw [Nat.add_mul,Nat.one_mul] at e1;omega
   rw [if_neg (by unfold Qhl;omega),if_pos (by unfold Qhl;omega)];have:Qhl (gatesOf N.ar ls) (gateRow N.ar l) k q x a b-(Qbo ((gatesOf N.ar ls).take k)+Qde ((gateRow N.ar l).take q))=a*x.2.length+b:=by unfold Qhl;omega
   rw [this];exact he a b s t h1 h2
theorem Qdg.start (N:Qaj) (ls:List (List Int)) (cl:List Int):Qdg N ls 0 0 cl:=fun k lb q y a b s t hk=>by omega
theorem Qdg.up {N:Qaj} {ls:List (List Int)} {i c:Nat} {l:List Int} {cl:List Int} (h:Qdg N ls i c cl) (hl:ls[i]?=some l) (hc:(gateRow N.ar l).length≤c):Qdg N ls (i+1) 0 cl:=fun k lb q y a b s t hk hb hy h1 h2=>by
 refine h k lb q y a b s t ?_ hb hy h1 h2
 by_cases e:k<i
 · exact .inl e
 · obtain rfl:k=i:=by omega
   rw [hl] at hb
   cases hb
   have:=(Zs hy).1;exact .inr ⟨rfl,by omega⟩
theorem Qdg.low {N:Qaj} {ls:List (List Int)} {i c j:Nat} {cl:List Int} (h:Qdg N ls i c cl) (hj:j<i):LowE N ls j cl:=fun lb q y a b s t hb hy h1 h2=>h j lb q y a b s t (.inl hj) hb hy h1 h2
theorem Qwp {w:World}{ops:Array Oper}{o:Oper}{a:Act}{K:Act→World→Prop}{Q:Exit→Act→World→Prop}{E:Prop}(d':Option Tmp)(hd':o.dst=d')(hgd:o.guard=none)(d s:Operand)
 (ho:o.op=.call { callee:=.builtin .copy,args:=#[d,s],argTypes:=#[30,30] })
 (A:Option Addr) (n cp B off N:Nat) (cl ces:List Int) (hd:a.eval d=.slice (cutA 1 (some ⟨B,0,none⟩) off N) (N-off) (N-off)) (hs:a.eval s=.slice A n cp)
 (hB:Blk w B 2 (Qad cl).toArray) (hcl:cl.length=N) (hA:RdI w A n ces) (hfit:off+n≤N)
 (h:∀ w',Blk w' B 2 (Qad (splice cl off ces)).toArray→Below B w w'→K (a.put d' (.int .i64 n)) w') :
 if Region.wanted o (yielded ops a.tmps)=true then Oper.wp prog o a w K Q else E:=by
 subst hd';have hlen:ces.length=n:=hA.1
 refine step_copy_splice hgd d s 30 30 ho 2 underlying30 (by kernel_rfl) _ A _ _ n cp hd hs B off (Qad cl) 2 hB (Qad ces) (by rw [show (Qad ces).length=n by simp [Qad,hlen]];exact (Nat.min_eq_left (by omega)).symm) (fun hp=>?_)
  (by simp [Qad,hlen,hcl];omega) (Qak _) B w (Zr _ _) (Zn _) (fun w' h1 h2=>?_)
 · have hn:0<n:=by simpa [Qad,hlen] using hp
   refine ⟨by unfold cutA;rw [if_neg (by omega)];by_cases h0:off=0 <;> simp [Addr.add,h0],?_⟩
   obtain ⟨z,hz⟩:∃ z,ces[0]?=some z:=⟨_,Zg (by omega)⟩;obtain ⟨b,o',e,_⟩:=hA.2 0 z hz;refine ⟨_,e,fun j v hv=>?_⟩
   have hj:∃ x,ces[j]?=some x∧v=.int .i64 x:=by
    simp [Qad] at hv;obtain ⟨x,e1,e2⟩:=hv;exact ⟨x,e1,e2.symm⟩
   obtain ⟨x,hx,rfl⟩:=hj;obtain ⟨b2,o2,e2,hc⟩:=hA.2 j x hx;rw [e] at e2
   cases e2
   unfold Addr.add
   by_cases h0:j=0
   · rw [if_pos h0]
     subst h0;exact hc
   · rw [if_neg h0]
     exact hc
 · have hw:=h w' (by rw [←Qgy];exact h1.out) h2
   rw [show goInt (Qad ces).length=Value.int .i64 (n:Int) by simp [Qad,hlen,goInt]]
   exact hw
def AllR (w:World)(N:Qaj) (ls:List (List Int)) (e:Ending) (w':World):Prop :=
 ∃ (B:Nat) (cl:List Int),e=.returned (.slice (some ⟨B,0,none⟩) (Qbo (gatesOf N.ar ls)) (Qbo (gatesOf N.ar ls)))∧w.heap.size≤B∧Blk w' B 2 (Qad cl).toArray∧cl.length=Qbo (gatesOf N.ar ls)∧Qhf cl∧Qdg N ls ls.length 0 cl∧Below w.heap.size w w'
set_option maxHeartbeats 2000000 in
theorem all_ok (w:World)(g o:Nat)(N:Qaj) (ls:List (List Int)) (hg:Qgk w g N) (hok:Qas N) (ho:Qex w o N.ar ls) (hP:Qcl N.vs.length ls) (hNC:Qbo (gatesOf N.ar ls)≤1000000000) :
 Calls prog 18 #[.pointer (some ⟨g,0,none⟩),.pointer (some ⟨o,0,none⟩)] w (AllR w N ls):=by
 have hL6:ls.length≤6:=hP.l6;have HG:=Zh hg;have HO:=Zh ho;have HP:=Zh hP;obtain ⟨NC,hNCe⟩:∃ NC,NC=Qbo (gatesOf N.ar ls):=⟨_,rfl⟩;have HSZ:=Zh (Qgw o N.ar ls w ho);rw [←hNCe] at HSZ hNC;have HNC:=Zh hNCe;obtain ⟨L,hL⟩:∃ L,L=ls.length:=⟨_,rfl⟩;have HL:=Zh hL;rw [←hL] at hL6;have hmk:=Qfq NC (by omega);clear hg ho hP hNCe hL
 go_enter func18,ntmps18
 go_wp2_with fail
 with_reducible refine HSZ.out.mono ?_
 rintro e w' ⟨rfl,rfl⟩
 go_wp2_with fail
 (refine Qah ?_;intro w1 hw1)
 have hb1:Below w.heap.size w w1:=by rw [hw1];exact Qae
 have hB1:Blk w1 w.heap.size 2 (Qad (List.replicate NC 0)).toArray:=by rw [hw1,show (Qad (List.replicate NC 0)).toArray=Qba (.int .i64 0) NC by simp [Qad,Qba]];exact Blk.new _ _ _
 clear hw1;obtain ⟨B,hBe⟩:∃ B,B=w.heap.size:=⟨_,rfl⟩;rw [←hBe] at hb1 hB1 ⊢;have HBE:=Zh hBe;clear hBe
 go_loopw [6,7] (fun z q V=>Below B w V∧∃ (i at_:Nat) (cl:List Int),i≤L∧q=.int .i64 ((i:Int)+1)∧z=.int .i64 (at_:Nat)∧at_=Qbo ((gatesOf N.ar ls).take i)∧Blk V B 2 (Qad cl).toArray∧cl.length=NC∧Qhf cl∧Qdg N ls i 0 cl) (fun _ q _=>L+1-(intOf q).toNat)
 case atStart=>exact ⟨hb1,0,0,List.replicate NC 0,Nat.zero_le _,rfl,rfl,by simp [Qbo],hB1,by simp,fun z hz=>by have:=List.eq_of_mem_replicate hz;omega,Qdg.start _ _ _⟩
 case round =>
  obtain ⟨hbl,i,at_,cl,hi,rfl,rfl,hat,hB,hcl,hco,hdo⟩:=hrel;have HLV:=Zh (Qgg o N.ar ls wr (HO.out.below (by rw [←HBE.out];exact hbl)));rw [←HL.out] at HLV
  by_cases hiL:i<L
  rotate_left
  · obtain rfl:i=L:=by omega
    have i1:¬((i:Int)+1≤(i:Int)):=by omega
    have HAT:=Zh hat;have HB:=Zh hB;have HCL:=Zh hcl;have HCO:=Zh hco;have HDO:=Zh hdo;clear hat hB hcl hco hdo
    go_wp2_with fail
    with_reducible refine HLV.out.mono ?_
    rintro e w' ⟨rfl,rfl⟩
    go_wp2_with fail
    go_ret
    exact ⟨B,cl,by rw [←HNC.out];rfl,by rw [HBE.out];exact Zn _,HB.out,by rw [←HNC.out];exact HCL.out,HCO.out,by rw [←HL.out];exact HDO.out,by rw [←HBE.out];exact hbl⟩
  · have i1:(i:Int)+1≤(L:Int):=by omega
    obtain ⟨l,hl⟩:∃ l,ls[i]?=some l:=⟨_,Zg (by rw [←HL.out];exact hiL)⟩;obtain ⟨M,hM⟩:∃ M,M=(gateRow N.ar l).length:=⟨_,rfl⟩;have HM:=Zh hM;have HCE:=Zh (Qfg o i M N.ar ls l wr (HO.out.below (by rw [←HBE.out];exact hbl)) hl (by rw [←HL.out];omega) (by rw [hM,Qan]));have HLJ:=Zh hl;have HAT:=Zh hat;have HB:=Zh hB;have HCL:=Zh hcl;have HCO:=Zh hco;have HDO:=Zh hdo;have hatb:at_≤NC:=by rw [hat,HNC.out];exact Qet _ _
    have hMb:M≤4096:=by
     have h1:=HP.out.lvl l (Zm hl);have h2:=Qcd (l:=l) (n:=(N.vs.length:Int)) (fun x hx=>h1.hi x hx) (by omega);have h3:=hok.lv;rw [hM,Qan];omega
    clear hat hB hcl hco hdo hl hM
    go_wp2_with fail
    with_reducible refine HLV.out.mono ?_
    rintro e w' ⟨rfl,rfl⟩
    go_wp2_with fail
    with_reducible refine HCE.out.mono ?_
    rintro e w' ⟨rfl,rfl⟩
    go_wp2_with fail
    clear HLV HCE
    go_loopw [6,21] (fun z q V=>Below B w V∧∃ (c at2:Nat) (cl:List Int),c≤M∧q=.int .i64 (c:Nat)∧z=.int .i64 (at2:Nat)∧at2=Qbo ((gatesOf N.ar ls).take i)+Qde ((gateRow N.ar l).take c)∧Blk V B 2 (Qad cl).toArray∧cl.length=NC∧Qhf cl∧Qdg N ls i c cl) (fun _ q _=>M-(intOf q).toNat)
    case atStart=>exact ⟨hbl,0,at_,cl,Nat.zero_le _,rfl,rfl,by rw [HAT.out];simp [Qde],HB.out,HCL.out,HCO.out,HDO.out⟩
    case round =>
     obtain ⟨hbl2,c,at2,cl,hc,rfl,rfl,hat,hB,hcl,hco,hdo⟩:=hrel;have HAT2:=Zh hat;have HB2:=Zh hB;have HCL2:=Zh hcl;have HCO2:=Zh hco;have HDO2:=Zh hdo;clear HB HCL HCO HDO
     by_cases hcM:c<M
     rotate_left
     · obtain rfl:c=M:=by omega
       clear hat hB hcl hco hdo
       go_wp2_with fail
       go_roundw
       case rel=>exact ⟨hbl2,i+1,at2,cl,by omega,by go_num,rfl,by rw [Qdc (Qbf HLJ.out),HAT2.out,List.take_of_length_le (l:=gateRow N.ar l) (by rw [←HM.out];exact Zn _)],HB2.out,HCL2.out,HCO2.out,HDO2.out.up HLJ.out (by rw [←HM.out];exact Zn _)⟩
       case measure=>simp [intOf];omega
     · obtain ⟨x,hx⟩:∃ x,(gateRow N.ar l)[c]?=some x:=⟨_,Zg (by rw [←HM.out];exact hcM)⟩
       have HX:=Zh hx
       have hat3:at2+szG x≤NC:=by
        have e1:=Qha (gateRow N.ar l) (c+1);have e2:=Qet (gatesOf N.ar ls) (i+1);rw [Qdc (Qbf HLJ.out),←HNC.out] at e2;rw [Qcy hx] at e1;omega
       have HON:=Zh (fun V (hV:Below wr.heap.size wr V)=>one_ok V g o i c N ls l x (some ⟨B,0,none⟩) NC NC cl (HG.out.below (Zb (by rw [←HBE.out];exact hbl2) hV)) hok (HO.out.below (Zb (by rw [←HBE.out];exact hbl2) hV)) HP.out HLJ.out hx ((Blk.below hB hV hB.lt).rdI hcl) (by rw [←HNC.out];exact Zn _) hNC hco (fun j hj=>hdo.low (by omega)));have hsl:=fun W=>Qnw (P:=prog) 30 2 1 underlying30 (by kernel_rfl) (by kernel_rfl) (some ⟨B,0,none⟩) NC NC at2 (NC-at2) (by omega) rfl .i64 (at2:Int) rfl W
       clear hat hB hcl hco hdo hx
       go_wp2_with fail
       refine wp_region_held_drew (S:=fun _=>True) (by kernel_rfl) trivial (fun _=>?_);refine tz 0 24 ?_;refine tz 1 25 ?_;refine tz 2 26 ?_;refine tz 3 27 ?_;refine tz 4 28 ?_;refine tz 5 29 ?_;refine tz 6 30 ?_;refine tz 7 31 ?_;refine tz 8 32 ?_;refine Zk 9 (fun K hK=>?_);go_simp;with_reducible refine (HON.out _ (Zr _ _).drew).mono ?_
       rintro e w3 ⟨A,cp,ces,rfl,hA,hent,hb3⟩;have hb23:Below wr.heap.size wr w3:=(Zr _ _).drew.trans hb3;have HB3:=Zh (Blk.below HB2.out hb23 HB2.out.lt);have HA:=Zh hA;have HE:=Zh hent;clear hA hent hb3;go_simp;refine hK.out _ _ trivial (fun _=>?_);clear hK K;refine Zk 10 (fun K hK=>?_);with_reducible refine Qwp (some 34) rfl rfl (.tmp 27) (.tmp 33) rfl A (szG x) cp B at2 NC cl ces rfl rfl HB3.out HCL2.out HA.out hat3 ?_
       intro w4 hB4 hb4;have HB4:=Zh hB4;have hbw4:Below B w w4:=hbl2.trans ((hb23.mono (by have:=HB2.out.lt;omega)).trans hb4);clear hB4 hb4 hb23;go_simp;refine hK.out _ _ trivial (fun _=>?_);clear hK K;refine tz 11 35 ?_;refine tz 12 6 ?_;refine Zd ?_
       go_wp2_with fail
       go_roundw
       case rel=>exact ⟨hbw4,c+1,at2+szG x,splice cl at2 ces,by omega,by go_num,by rw [IntWalk.i64_in _ (by omega)];rfl,by rw [Qcy HX.out,HAT2.out];omega,HB4.out,by rw [length_splice _ _ _ (by rw [HA.out.1,HCL2.out];exact hat3)];exact HCL2.out,HCO2.out.next hok HX.out HA.out.1 HE.out,by
        have:=HDO2.out.next HLJ.out HX.out HA.out.1 (by rw [HCL2.out,←HAT2.out];exact hat3) HE.out;rw [←HAT2.out] at this;exact this⟩
       case measure=>simp [intOf];omega
theorem Qpr:∀ (l:List Nat)(k:Nat),k<l.sum→∃ i,i<l.length∧(l.take i).sum≤k∧k<(l.take (i+1)).sum
 | [],k,h=>by simp at h
 | x::t,k,h=>by
  by_cases hk:k<x
  · exact ⟨0,by simp,by simp,by simpa using hk⟩
  · simp only [List.sum_cons] at h
    obtain ⟨i,h1,h2,h3⟩:=Qpr t (k-x) (by omega);refine ⟨i+1,by simp;omega,?_,?_⟩
    · simp only [List.take_succ_cons,List.sum_cons];omega
    · simp only [List.take_succ_cons,List.sum_cons] at h3 ⊢;omega
structure Qnh (N:Qaj) (ls:List (List Int)) (k i:Nat) (l:List Int) (c:Nat) (x:Qal) (a b s t:Nat):Prop where
 hl:ls[i]?=some l
 hx:(gateRow N.ar l)[c]?=some x
 ha:x.1[a]?=some (s:Int)
 hb:x.2[b]?=some (t:Int)
 hk:k=Qhl (gatesOf N.ar ls) (gateRow N.ar l) i c x a b
theorem ent_ex {N:Qaj} {ls:List (List Int)} {k:Nat} (hk:k<Qbo (gatesOf N.ar ls)):∃ i l c x a b s t,Qnh N ls k i l c x a b s t:=by
 obtain ⟨i,h1,h2,h3⟩:=Qpr _ _ hk;rw [←List.map_take] at h2 h3;rw [List.length_map] at h1;have hi:i<ls.length:=by simpa [gatesOf] using h1
 obtain ⟨l,hl⟩:∃ l,ls[i]?=some l:=⟨_,Zg hi⟩;have e1:=Qdc (Qbf (ar:=N.ar) hl);unfold Qbo at e1;rw [e1] at h3;have h4:k-((List.take i (gatesOf N.ar ls)).map Qde).sum<Qde (gateRow N.ar l):=by omega
 obtain ⟨c,g1,g2,g3⟩:=Qpr _ _ h4;rw [←List.map_take] at g2 g3;rw [List.length_map] at g1;obtain ⟨x,hx⟩:∃ x,(gateRow N.ar l)[c]?=some x:=⟨_,Zg g1⟩;have e2:=Qcy hx;unfold Qde at e2;rw [e2] at g3;obtain ⟨a,b,s,t,e,f1,f2⟩:=Qoh hx (k:=k-((List.take i (gatesOf N.ar ls)).map Qde).sum-((List.take c (gateRow N.ar l)).map szG).sum) (by omega);exact ⟨i,l,c,x,a,b,s,t,hl,hx,f1,f2,by unfold Qhl Qbo Qde at *;omega⟩
theorem Qnh.lt {N:Qaj} {ls:List (List Int)} {k i c a b s t:Nat} {l:List Int} {x:Qal} (h:Qnh N ls k i l c x a b s t):k<Qbo ((gatesOf N.ar ls).take i)+Qde ((gateRow N.ar l).take (c+1))∧k<Qbo ((gatesOf N.ar ls).take (i+1))∧k<Qbo (gatesOf N.ar ls)∧Qbo ((gatesOf N.ar ls).take i)+Qde ((gateRow N.ar l).take c)≤k:=by
 have ha:=(Zs h.ha).1;have hb:=(Zs h.hb).1;have h1:=Qpa (gs:=gatesOf N.ar ls) (i:=i) h.hx ha hb;have h2:=Qit (Qbf (ar:=N.ar) h.hl) h.hx ha hb;have h3:=Qet (gatesOf N.ar ls) (i+1);rw [←h.hk] at h1 h2;exact ⟨h1,h2,by omega,by rw [h.hk];unfold Qhl;omega⟩
theorem Qnh.inj {N:Qaj} {ls:List (List Int)} {k i c a b s t i' c' a' b' s' t':Nat} {l l':List Int} {x x':Qal} (h:Qnh N ls k i l c x a b s t) (g:Qnh N ls k i' l' c' x' a' b' s' t') :
 i=i'∧l=l'∧c=c'∧x=x'∧a=a'∧b=b'∧s=s'∧t=t':=by
 have h1:=h.lt;have g1:=g.lt
 have hi:i=i':=by
  rcases Nat.lt_trichotomy i i' with e|e|e
  · have:=Qfd (gatesOf N.ar ls) (show i+1≤i' from e);omega
  · exact e
  · have:=Qfd (gatesOf N.ar ls) (show i'+1≤i from e);omega
 subst hi;have hl:l=l':=by have:=h.hl;rw [g.hl] at this;cases this;rfl
 subst hl
 have hc:c=c':=by
  rcases Nat.lt_trichotomy c c' with e|e|e
  · have:=Qez (gateRow N.ar l) (show c+1≤c' from e);omega
  · exact e
  · have:=Qez (gateRow N.ar l) (show c'+1≤c from e);omega
 subst hc;have hx:x=x':=by have:=h.hx;rw [g.hx] at this;cases this;rfl
 subst hx;have hb:=(Zs h.hb).1;have hb':=(Zs g.hb).1;have e:a*x.2.length+b=a'*x.2.length+b':=by have e1:=h.hk;have e2:=g.hk;unfold Qhl at e1 e2;omega
 have hab:a=a':=by
  rcases Nat.lt_trichotomy a a' with e3|e3|e3
  · have:(a+1)*x.2.length≤a'*x.2.length:=Nat.mul_le_mul_right _ e3
    rw [Nat.add_mul,Nat.one_mul] at this;omega
  · exact e3
  · have:(a'+1)*x.2.length≤a*x.2.length:=Nat.mul_le_mul_right _ e3
    rw [Nat.add_mul,Nat.one_mul] at this;omega
 subst hab;have hbb:b=b':=by omega
 subst hbb;have hs:=h.ha;rw [g.ha] at hs;have ht:=h.hb;rw [g.hb] at ht;have hs2:(s':Int)=(s:Int):=Option.some.inj hs;have ht2:(t':Int)=(t:Int):=Option.some.inj ht;exact ⟨rfl,rfl,rfl,rfl,rfl,rfl,by omega,by omega⟩
def EntV (N:Qaj) (ls:List (List Int)) (k:Nat) (v:Int):Prop:=∃ i l c x a b s t,Qnh N ls k i l c x a b s t∧Qhk N (Qdz l c) s t v
theorem EntV.uniq {N:Qaj} {ls:List (List Int)} {k:Nat} {v v':Int} (h:EntV N ls k v) (g:EntV N ls k v'):v=v':=by
 obtain ⟨i,l,c,x,a,b,s,t,h1,h2⟩:=h;obtain ⟨i',l',c',x',a',b',s',t',g1,g2⟩:=g;obtain ⟨rfl,rfl,rfl,rfl,rfl,rfl,rfl,rfl⟩:=h1.inj g1;exact h2.uniq g2
def RowE (N:Qaj) (ls:List (List Int)) (cl:List Int):Prop:=∀ (k:Nat) (v:Int),cl[k]?=some v→EntV N ls k v
structure Qfe (N:Qaj) (ls:List (List Int)) (cl:List Int):Prop where
 len:cl.length=Qbo (gatesOf N.ar ls)
 row:RowE N ls cl
theorem Qfe.uniq {N:Qaj} {ls:List (List Int)} {cl cl':List Int} (h:Qfe N ls cl) (g:Qfe N ls cl'):cl=cl':=by
 refine List.ext_getElem? (fun k=>?_)
 rcases Nat.lt_or_ge k cl.length with e|e
 · have e':k<cl'.length:=by rw [g.len,←h.len];exact e
   rw [Zg e,Zg e',(h.row k _ (Zg e)).uniq (g.row k _ (Zg e'))]
 · rw [List.getElem?_eq_none e,List.getElem?_eq_none (by rw [g.len,←h.len];exact e)]
theorem Qdg.all {N:Qaj} {ls:List (List Int)} {cl:List Int} (h:Qdg N ls ls.length 0 cl) (hl:cl.length=Qbo (gatesOf N.ar ls)):Qfe N ls cl:=by
 refine ⟨hl,fun k v hk=>?_⟩;obtain ⟨i,l,c,x,a,b,s,t,he⟩:=ent_ex (k:=k) (by rw [←hl];exact (Zs hk).1);refine ⟨i,l,c,x,a,b,s,t,he,?_⟩;have h1:=h i l c x a b s t (.inl (Zs he.hl).1) he.hl he.hx he.ha he.hb;rw [←he.hk,List.getD_eq_getElem?_getD,hk] at h1;exact h1
theorem Qfe.done {N:Qaj} {ls:List (List Int)} {cl:List Int} (h:Qfe N ls cl) (i c:Nat):Qdg N ls i c cl:=fun k lb q y a b s t _ hb hy h1 h2=>by
 obtain ⟨kk,hkk⟩:∃ kk,kk=Qhl (gatesOf N.ar ls) (gateRow N.ar lb) k q y a b:=⟨_,rfl⟩;have he:Qnh N ls kk k lb q y a b s t:=⟨hb,hy,h1,h2,hkk⟩;obtain ⟨v,hv⟩:∃ v,cl[kk]?=some v:=⟨_,Zg (by rw [h.len];exact he.lt.2.2.1)⟩;obtain ⟨i',l',c',x',a',b',s',t',g1,g2⟩:=h.row kk v hv;obtain ⟨rfl,rfl,rfl,rfl,rfl,rfl,rfl,rfl⟩:=he.inj g1;rw [←hkk,List.getD_eq_getElem?_getD,hv];exact g2
theorem Qfe.cost {N:Qaj}(hok:Qas N) {ls:List (List Int)} {cl:List Int} (h:Qfe N ls cl):Qhf cl:=fun z hz=>by
 obtain ⟨k,hk⟩:=List.getElem?_of_mem hz;obtain ⟨i,l,c,x,a,b,s,t,_,h2⟩:=h.row k z hk;have:=h2.bd hok;omega
end Go.Proofs.YthoagdpakddbdaaGreatDoor
