/- Parts of the proof: One, All, Aq, AsP, RoP, RoQ, RfC, RoM. -/
import Derived.Test.YtdheeddnkdhfeaaGreatDoorJ14
import Derived.Laws.CopyOwn
namespace Go.Proofs.YtdheeddnkdhfeaaGreatDoor
open Go.RowKit Go.Proofs.Tryz
attribute [local go_sem ↓] Go.wp_at_zero Go.wp_at_succ
def OneR (w:World)(N:Qak)(l:List Int)(c:Nat)(x:Qam)(e:Ending)(w':World):Prop :=
 ∃ (A:Option Addr) (cp:Nat) (ces:List Int),e=.returned (.slice A (szG x) cp)∧RdI w' A (szG x) ces∧(∀ (a b s t:Nat),x.1[a]?=some (s:Int)→x.2[b]?=some (t:Int)→Qgx N (Qeu l c) s t (ces.getD (a*x.2.length+b) 0))∧Below w.heap.size w w'
def LowE (N:Qak) (ls:List (List Int)) (i:Nat) (costs:List Int):Prop:=∀ (lb:List Int) (q:Nat) (y:Qam) (a b s t:Nat),ls[i]?=some lb→(gateRow N.ar lb)[q]?=some y→y.1[a]?=some (s:Int)→y.2[b]?=some (t:Int)→Qgx N (Qeu lb q) s t (costs.getD (Qgq (gatesOf N.ar ls) (gateRow N.ar lb) i q y a b) 0)
theorem LowE.ex {N:Qak}(hok:Qas N) {ls:List (List Int)} {lb:List Int} {j:Nat} {costs:List Int} (h:LowE N ls j costs) (hb:ls[j]?=some lb) (hBv:Qfz N.vs.length lb) {l:List Int} {c:Nat} :
 ∀ (a m:Nat) (y z:Tri),Qev N l lb c a→N.ar[a]?=some y→N.ar[m]?=some z→Qad lb z.1=Qad lb y.2.1→Qad lb z.2.1≠Qad lb y.2.1→∃ v,Qgx N (Qeu lb (Qad lb y.2.1)) a m v:=fun a m y z hk hy hz h1 h2=>by
 obtain ⟨y',hy',k1,_⟩:=hk;rw [hy] at hy'
 cases hy'
 have ho:=hok.arcs y (Zm hy);have o0:=ho.g0;have o1:=ho.g1;obtain ⟨u,hu⟩:∃ u:Nat,y.2.1=(u:Int):=⟨y.2.1.toNat,by omega⟩;have e1:=Qdj (l:=lb) (v:=u) (by rw [hBv.len];omega);rw [←hu] at e1;obtain ⟨q,hq,g,hg⟩:=Qip (ar:=N.ar) hBv (Zm e1);rw [hq] at h1 h2 ⊢;obtain ⟨k,hk⟩:=Yr ((Qdi hg).2 ⟨y,hy,by rw [←hq];exact k1,hq⟩);obtain ⟨b,hb'⟩:=Yr ((Qce hg).2 ⟨z,hz,h1,h2⟩);exact ⟨_,h lb q g k b a m hb hg hk hb'⟩
set_option maxHeartbeats 2000000 in
theorem one_ok (w:World)(g o i c:Nat)(N:Qak) (ls:List (List Int)) (l:List Int) (x:Qam) (CA:Option Addr) (NC cC:Nat) (costs:List Int) (hg:Qen w g N) (hok:Qas N) (ho:Qfw w o N.ar ls) (hP:Qbc N.vs.length ls) (hl:ls[i]?=some l) (hx:(gateRow N.ar l)[c]?=some x)
 (hc:RdI w CA NC costs) (hNC:Qca (gatesOf N.ar ls)≤NC) (hNC2:NC≤1000000000) (hcost:∀ z∈costs,0≤z∧z≤1152921504606846976) (hlow:∀ j,i=j+1→LowE N ls j costs) :
 Calls prog 51 #[.pointer (some ⟨g,0,none⟩),.pointer (some ⟨o,0,none⟩),.int .i64 ((i:Int)+1),.int .i64 c,.slice CA NC cC] w (OneR w N l c x):=by
 have hla:=hok.la;have hL6:ls.length≤6:=hP.l6;have hi5:(i:Int)≤5:=by have:=(Zs hl).1;omega
 have hLv:=hP.lvl l (Zm hl);have hcM:c<(Qav l).toNat:=by rw [←Qau N.ar l];exact (Zs hx).1
 have hcm:(c:Int)<((Qav l).toNat:Int):=by omega
 have HCE:=Zh (Qkt o i _ N.ar ls l w ho hl (by omega) rfl);have HGT:=Zh (Qic o i c N.ar ls l x w ho hl (by omega) hx (by omega));have HG:=Zh hg;have HO:=Zh ho;have HP:=Zh hP;have HL:=Zh hl;have HX:=Zh hx;have HC:=Zh hc;have HCO:=Zh hcost;have HLOW:=Zh hlow;have HLL:=Zh hLv.len;have hgx:=Qbn hx;obtain ⟨MM,hMM⟩:∃ MM,MM=(Qav l).toNat:=⟨_,rfl⟩;rw [←hMM] at HCE hcm;clear hg ho hP hl hx hc hcost hlow hLv hcM hMM
 go_enter func51,ntmps51
 go_wp2_with fail
 with_reducible refine HCE.out.mono ?_
 rintro e w' ⟨rfl,rfl⟩
 go_wp2_with fail
 with_reducible refine HGT.out.mono ?_
 rintro e w1 ⟨B1,m1,d1,B2,m2,d2,rfl,ho1,ho2,hb1⟩;have hm1:x.1.length=m1:=by have:=ho1.1;simpa [Qaf] using this
 have hm2:x.2.length=m2:=by have:=ho2.1;simpa [Qaf] using this
 have HO1:=Zh ho1;have HO2:=Zh ho2;have HB1:=Zh hb1;clear ho1 ho2 hb1
 by_cases h10:m1=0
 · have HE:=Zh h10
   subst h10
   go_wp2_with fail
   go_ret
   refine ⟨none,0,[],by unfold szG;rw [hm1,Nat.zero_mul];rfl,⟨by unfold szG;rw [hm1,Nat.zero_mul];rfl,fun i x h=>by simp at h⟩,fun a b s t h=>?_,(HB1.out.trans ((Zr _ _).alloc (Zn _) _ |>.mono HB1.out.size))⟩;have:=(Zs h).1;omega
 · have e10:((m1:Int) == 0)=false:=by simp;omega
   by_cases h20:m2=0
   · have HE:=Zh h20
     subst h20
     go_wp2_with fail
     go_ret
     refine ⟨none,0,[],by unfold szG;rw [hm2,Nat.mul_zero];rfl,⟨by unfold szG;rw [hm2,Nat.mul_zero];rfl,fun i x h=>by simp at h⟩,fun a b s t _ h=>?_,(HB1.out.trans ((Zr _ _).alloc (Zn _) _ |>.mono HB1.out.size))⟩;have:=(Zs h).1;omega
   · have e20:((m2:Int) == 0)=false:=by simp;omega
     rcases Nat.eq_zero_or_pos i with hi0|hi0
     · subst hi0
       go_wp2_with fail
       (refine Qai ?_;intro w2 hw2)
       have hb2:Below w1.heap.size w1 w2:=by rw [hw2];exact Qag
       have hX2:Blk w2 w1.heap.size 135 #[.slice B1 m1 d1,.slice B2 m2 d2]:=by rw [hw2];exact Blk.new _ _ _
       clear hw2;have x1:w2.cell? ⟨w1.heap.size,1,none⟩=some (.slice B2 m2 d2):=Zq hX2;have HB2:=Zh (Zb HB1.out hb2);have HBA:=Zh (fun V (hV:Below w2.heap.size w2 V)=>Qyq V g N l c x B1 B2 m1 m2 d1 d2 (HG.out.below (Zb (Zb HB1.out hb2) hV)) hok HLL.out HX.out ((HO1.out.below hb2).rds.rdI.below hV) ((HO2.out.below hb2).rds.rdI.below hV));have HSX:=Zh (show ∀ V,Blk V w1.heap.size 135 #[.slice B1 m1 d1,.slice B2 m2 d2]→V.cell? ⟨w1.heap.size,0,none⟩=some (.slice B1 m1 d1)∧V.cell? ⟨w1.heap.size,1,none⟩=some (.slice B2 m2 d2) from fun V hV=>⟨hV.two.1,hV.two.2.1⟩)
       clear hb2;refine wp_region_held_drew (S:=fun V=>Blk V w1.heap.size 135 #[.slice B1 m1 d1,.slice B2 m2 d2]) (by kernel_rfl) hX2.drew (fun _=>?_);refine tz 0 37 ?_;refine tz 1 38 ?_;refine tz 3 40 ?_;refine tz 4 41 ?_;refine tz 5 42 ?_;refine Zk 2 (fun K hK=>?_);go_simp;with_reducible refine (HBA.out _ (Zr _ _).drew).mono ?_
       rintro e w3 ⟨SA,sc,c9,arcs,L,rfl,hS,hNx,hFA,hFl,hnil,hnd,har,hins,hn1,hb3⟩;have hb23:Below w2.heap.size w2 w3:=(Zr _ _).drew.trans hb3;have hX3:=hX2.below hb23 hX2.lt;go_simp;refine hK.out _ _ hX3 (fun _=>?_);clear hK K;refine Zk 6 (fun K hK=>?_);go_simp
       have HLE:=Zh (Qtw w3 arcs.length m1 sc m2 _ SA _ (List.range m1) L MB 4294967296 hS (fun s hs=>by have:=List.mem_range.1 hs;omega) har (by omega) (by omega) (by omega) hNx hFl hnil (fun s hs p d hr=>by
        have hs':=List.mem_range.1 hs;exact hFA.bound hok HLL.out HX.out (Zg (by omega)) hnd p d hr) (by unfold MB;omega) (by omega) (by unfold MB;omega))
       have HFA:=Zh hFA;have HINS:=Zh hins;have HB3:=Zh (Zb HB2.out hb23);clear hS hNx hFA hFl hnil hnd har hins hn1 hb3 hb23;with_reducible refine HLE.out.mono ?_
       rintro e w4 ⟨bb,ces,rfl,hbb,hcl,hlst,hbs,hb4⟩;have hX4:=hX3.below hb4 hX3.lt;have HBB:=Zh hbb;have HCL:=Zh hcl;have HLST:=Zh hlst;have HB4:=Zh (Zb HB3.out hb4);clear hbb hcl hlst hbs hb4;go_simp;refine hK.out _ _ hX4 (fun _=>?_);clear hK K;refine tz 7 10 ?_;refine Zd ?_
       go_wp2_with fail
       go_ret
       have hsz:szG x=m1*m2:=by unfold szG;rw [hm1,hm2]
       refine ⟨some ⟨bb,0,none⟩,m1*m2,ces,by rw [hsz];rfl,by rw [hsz];exact HBB.out.rdI HCL.out,fun a b s t ha hb=>?_,HB4.out⟩;have ha':=(Zs ha).1;have hb':=(Zs hb).1;rw [hm2];exact HFA.out.entry hok HLL.out HX.out (HINS.out a s ha) hb (HLST.out a a b (by rw [List.getElem?_range (by omega)]) (by omega))
     · obtain ⟨j,rfl⟩:∃ j,i=j+1:=⟨i-1,by omega⟩
       obtain ⟨lb,hlb⟩:∃ lb,ls[j]?=some lb:=⟨_,Zg (by have:=(Zs HL.out).1;omega)⟩;have hE:=HLOW.out j rfl;have hBv:=HP.out.lvl lb (Zm hlb);have hnest:=HP.out.nest j lb l hlb HL.out
       have hbt:((x.2.getD 0 0).toNat:Int)∈x.2:=by
        obtain ⟨z,hz⟩:∃ z,x.2[0]?=some z:=⟨_,Zg (by omega)⟩;obtain ⟨m,rfl⟩:=Qdq HX.out hz;rw [Ya,hz];exact Zm hz
       have HEX:=Zh (hE.ex hok hlb hBv (l:=l) (c:=c));have e30:((j:Int)+1+1 == 1)=false:=by simp;omega
       have HLB:=Zh hlb;have HEE:=Zh hE;have HBV:=Zh hBv;have HNE:=Zh hnest;have HBT:=Zh hbt;clear hlb hE hBv hnest hbt
       go_wp2_with fail
       (refine Qai ?_;intro w2 hw2)
       have hb2:Below w1.heap.size w1 w2:=by rw [hw2];exact Qag
       have hX2:Blk w2 w1.heap.size 135 #[.slice B1 m1 d1,.slice B2 m2 d2]:=by rw [hw2];exact Blk.new _ _ _
       clear hw2;have hbw2:=Zb HB1.out hb2;have HB2:=Zh hbw2;have HBK:=Zh (fun V (hV:Below w2.heap.size w2 V)=>Qxv V g o j c N ls l lb x B1 B2 CA m1 m2 d1 d2 NC cC costs (HG.out.below (Zb hbw2 hV)) hok (HO.out.below (Zb hbw2 hV)) HP.out HL.out HLB.out HX.out ((HO1.out.below hb2).rds.rdI.below hV) ((HO2.out.below hb2).rds.rdI.below hV) (HC.out.below (Zb hbw2 hV)) hNC hNC2 HCO.out (fun q y a b s t h1 h2 h3=>HEE.out lb q y a b s t HLB.out h1 h2 h3));have HSX:=Zh (show ∀ V,Blk V w1.heap.size 135 #[.slice B1 m1 d1,.slice B2 m2 d2]→V.cell? ⟨w1.heap.size,0,none⟩=some (.slice B1 m1 d1)∧V.cell? ⟨w1.heap.size,1,none⟩=some (.slice B2 m2 d2) from fun V hV=>⟨hV.two.1,hV.two.2.1⟩)
       clear hb2 hbw2;refine wp_region_held_drew (S:=fun V=>Blk V w1.heap.size 135 #[.slice B1 m1 d1,.slice B2 m2 d2]) (by kernel_rfl) hX2.drew (fun _=>?_);refine tz 0 44 ?_;refine tz 1 45 ?_;refine tz 2 46 ?_;refine tz 3 47 ?_;refine tz 4 48 ?_;refine tz 5 49 ?_;refine tz 7 51 ?_;refine tz 8 52 ?_;refine tz 9 53 ?_;refine Zk 6 (fun K hK=>?_);go_simp;with_reducible refine (HBK.out _ (Zr _ _).drew).mono ?_
       rintro e w3 ⟨SA,sc,cs,cl,cc,pl,starts,L,rfl,hS,hNx,hFB,hnil,hpl,hst,hb3⟩;have hb23:Below w2.heap.size w2 w3:=(Zr _ _).drew.trans hb3;have hX3:=hX2.below hb23 hX2.lt;go_simp;refine hK.out _ _ hX3 (fun _=>?_);clear hK K;refine Zk 10 (fun K hK=>?_);go_simp;have hstl:starts.length=m1:=by have:=hS.1;rw [Qex] at this;exact this
       have hstp:∀ p∈starts,∃ s,pl[p]?=some s:=fun p hp=>by
        obtain ⟨k,hk⟩:=Yr hp;have hkl:=(Zs hk).1;obtain ⟨z,hz⟩:∃ z,x.1[k]?=some z:=⟨_,Zg (by omega)⟩;obtain ⟨s,rfl⟩:=Qfj HX.out hz;obtain ⟨p',e1,e2⟩:=hst k s hz;rw [hk] at e1
        cases e1
        exact ⟨s,e2⟩
       have hFl:=hFB.fld hok;rw [hm2] at hFl
       have HLE:=Zh (Qtw w3 pl.length m1 sc m2 _ SA _ starts L MB 70377334112256 hS (fun s hs=>by obtain ⟨s',e⟩:=hstp s hs;exact (Zs e).1) hpl (by omega) (by omega) (by omega) hNx hFl hnil (fun s hs p d hr=>by
        obtain ⟨s',e⟩:=hstp s hs;exact hFB.bound hok HLL.out HBV.out.len HNE.out HX.out HEX.out _ HBT.out e p d hr) (by unfold MB;omega) (by omega) (by unfold MB;omega))
       have HFB:=Zh hFB;have HST:=Zh hst;have HB3:=Zh (Zb HB2.out hb23);clear hS hNx hFB hFl hnil hpl hst hb3 hb23 hstl hstp;with_reducible refine HLE.out.mono ?_
       rintro e w4 ⟨bb,ces,rfl,hbb,hcl,hlst,hbs,hb4⟩;have hX4:=hX3.below hb4 hX3.lt;have HBB:=Zh hbb;have HCL:=Zh hcl;have HLST:=Zh hlst;have HB4:=Zh (Zb HB3.out hb4);clear hbb hcl hlst hbs hb4;go_simp;refine hK.out _ _ hX4 (fun _=>?_);clear hK K;refine tz 11 10 ?_;refine Zd ?_
       go_wp2_with fail
       go_ret
       have hsz:szG x=m1*m2:=by unfold szG;rw [hm1,hm2]
       refine ⟨some ⟨bb,0,none⟩,m1*m2,ces,by rw [hsz];rfl,by rw [hsz];exact HBB.out.rdI HCL.out,fun a b s t ha hb=>?_,HB4.out⟩;have ha':=(Zs ha).1;have hb':=(Zs hb).1;rw [hm2];obtain ⟨p,e1,e2⟩:=HST.out a s ha;exact HFB.out.entry hok HLL.out HBV.out.len HNE.out HX.out HEX.out e2 hb (HLST.out a p b e1 (by omega))
def Qgl (N:Qak) (ls:List (List Int)) (i c:Nat) (cl:List Int):Prop:=∀ (k:Nat) (lb:List Int) (q:Nat) (y:Qam) (a b s t:Nat),k<i∨k=i∧q<c→ls[k]?=some lb→(gateRow N.ar lb)[q]?=some y→y.1[a]?=some (s:Int)→y.2[b]?=some (t:Int)→Qgx N (Qeu lb q) s t (cl.getD (Qgq (gatesOf N.ar ls) (gateRow N.ar lb) k q y a b) 0)
def Qks (cl:List Int):Prop:=∀ z∈cl,0≤z∧z≤1152921504606846976
theorem Qru {L cs:List Int}{off k:Nat}(h:off+cs.length≤L.length) :
 (splice L off cs).getD k 0=if k<off then L.getD k 0 else if k<off+cs.length then cs.getD (k-off) 0 else L.getD k 0:=by
 unfold splice;simp only [Ya]
 by_cases h1:k<off
 · rw [if_pos h1,Yc (by simp;omega),List.getElem?_take_of_lt h1]
 · rw [if_neg h1]
   have hl:(L.take off).length=off:=by rw [Yw];omega
   rw [Yb (by omega),hl]
   by_cases h2:k<off+cs.length
   · rw [if_pos h2,Yc (by omega)]
   · rw [if_neg h2,Yb (by omega),List.getElem?_drop]
     congr 2
     omega
theorem Qvv {L cs:List Int}{off:Nat}{z:Int}(h:z∈splice L off cs):z∈L∨z∈cs:=by
 unfold splice at h;simp only [List.mem_append] at h
 rcases h with h|h|h
 · exact .inl (List.mem_of_mem_take h)
 · exact .inr h
 · exact .inl (List.mem_of_mem_drop h)
theorem Qoc (L cs:List Int)(off:Nat):splice (Qaf L) off (Qaf cs)=Qaf (splice L off cs):=by
 unfold splice Qaf;simp [List.map_take,List.map_drop]
theorem Qql {N:Qak}{l:List Int}{c:Nat}{x:Qam} (hx:(gateRow N.ar l)[c]?=some x) {k:Nat} (hk:k<szG x) :
 ∃ a b s t:Nat,k=a*x.2.length+b∧x.1[a]?=some (s:Int)∧x.2[b]?=some (t:Int):=by
 have hk2:k<x.1.length*x.2.length:=hk
 generalize hm:x.2.length=m at hk2
 have hn2:0<m:=by
  rcases Nat.eq_zero_or_pos m with h|h
  · rw [h,Nat.mul_zero] at hk2;omega
  · exact h
 have hb:k % m<m:=Nat.mod_lt k hn2
 have ha:k / m<x.1.length:=(Nat.div_lt_iff_lt_mul hn2).2 hk2
 have e:k=k / m*m+k % m:=by have:=Nat.div_add_mod k m;rw [Nat.mul_comm] at this;exact this.symm
 obtain ⟨a,h1⟩:∃ a,a=k / m:=⟨_,rfl⟩;obtain ⟨b,h2⟩:∃ b,b=k % m:=⟨_,rfl⟩;rw [←h1] at ha e;rw [←h2] at hb e;obtain ⟨z1,h3⟩:∃ z,x.1[a]?=some z:=⟨_,Zg ha⟩;obtain ⟨z2,h4⟩:∃ z,x.2[b]?=some z:=⟨_,Zg (by rw [hm];exact hb)⟩;obtain ⟨s,hs⟩:=Qfj hx h3;obtain ⟨t,ht⟩:=Qdq hx h4;exact ⟨a,b,s,t,e,by rw [h3,hs],by rw [h4,ht]⟩
theorem Qks.next {N:Qak}(hok:Qas N){l:List Int}{c off:Nat}{x:Qam}{cl ces:List Int}(h:Qks cl) (hx:(gateRow N.ar l)[c]?=some x) (hl:ces.length=szG x)
 (he:∀ (a b s t:Nat),x.1[a]?=some (s:Int)→x.2[b]?=some (t:Int)→Qgx N (Qeu l c) s t (ces.getD (a*x.2.length+b) 0)):Qks (splice cl off ces):=fun z hz=>by
 rcases Qvv hz with h1|h1
 · exact h z h1
 · obtain ⟨k,hk⟩:=Yr h1
   have hk':=(Zs hk).1;obtain ⟨a,b,s,t,e,h2,h3⟩:=Qql hx (k:=k) (by omega);have h4:=he a b s t h2 h3;rw [←e,Ya,hk] at h4;have:=h4.bd hok;simp at this;omega
theorem Qgl.next {N:Qak} {ls:List (List Int)} {i c:Nat} {l:List Int} {x:Qam} {cl ces:List Int} (h:Qgl N ls i c cl) (hl:ls[i]?=some l) (hx:(gateRow N.ar l)[c]?=some x) (hn:ces.length=szG x)
 (hfit:Qca ((gatesOf N.ar ls).take i)+Qdy ((gateRow N.ar l).take c)+szG x≤cl.length)
 (he:∀ (a b s t:Nat),x.1[a]?=some (s:Int)→x.2[b]?=some (t:Int)→Qgx N (Qeu l c) s t (ces.getD (a*x.2.length+b) 0)) :
 Qgl N ls i (c+1) (splice cl (Qca ((gatesOf N.ar ls).take i)+Qdy ((gateRow N.ar l).take c)) ces):=fun k lb q y a b s t hk hb hy h1 h2=>by
 have ha':=(Zs h1).1;have hb':=(Zs h2).1;rw [Qru (by omega)]
 by_cases hkq:k<i∨k=i∧q<c
 · have hlt:Qgq (gatesOf N.ar ls) (gateRow N.ar lb) k q y a b<Qca ((gatesOf N.ar ls).take i)+Qdy ((gateRow N.ar l).take c):=by
    rcases hkq with h3|⟨rfl,h3⟩
    · have e1:=Qjs (Qbt (ar:=N.ar) hb) hy ha' hb'
      have e2:=Qii (gatesOf N.ar ls) (show k+1≤i from h3)
      omega
    · rw [hl] at hb
      cases hb
      have e1:=Qrp (gs:=gatesOf N.ar ls) (i:=k) hy ha' hb';have e2:=Qhz (gateRow N.ar l) (show q+1≤c from h3)
      omega
   rw [if_pos hlt];exact h k lb q y a b s t hkq hb hy h1 h2
 · obtain ⟨rfl,rfl⟩:k=i∧q=c:=by omega
   rw [hl] at hb
   cases hb
   rw [hx] at hy
   cases hy
   have hin:a*x.2.length+b<szG x:=by
    unfold szG;have e1:(a+1)*x.2.length≤x.1.length*x.2.length:=Nat.mul_le_mul_right _ ha';rw [Nat.add_mul,Nat.one_mul] at e1;omega
   rw [if_neg (by unfold Qgq;omega),if_pos (by unfold Qgq;omega)];have:Qgq (gatesOf N.ar ls) (gateRow N.ar l) k q x a b-(Qca ((gatesOf N.ar ls).take k)+Qdy ((gateRow N.ar l).take q))=a*x.2.length+b:=by unfold Qgq;omega
   rw [this];exact he a b s t h1 h2
theorem Qgl.start (N:Qak) (ls:List (List Int)) (cl:List Int):Qgl N ls 0 0 cl:=fun k lb q y a b s t hk=>by omega
theorem Qgl.up {N:Qak} {ls:List (List Int)} {i c:Nat} {l:List Int} {cl:List Int} (h:Qgl N ls i c cl) (hl:ls[i]?=some l) (hc:(gateRow N.ar l).length≤c):Qgl N ls (i+1) 0 cl:=fun k lb q y a b s t hk hb hy h1 h2=>by
 refine h k lb q y a b s t ?_ hb hy h1 h2
 by_cases e:k<i
 · exact .inl e
 · obtain rfl:k=i:=by omega
   rw [hl] at hb
   cases hb
   have:=(Zs hy).1;exact .inr ⟨rfl,by omega⟩
theorem Qgl.low {N:Qak} {ls:List (List Int)} {i c j:Nat} {cl:List Int} (h:Qgl N ls i c cl) (hj:j<i):LowE N ls j cl:=fun lb q y a b s t hb hy h1 h2=>h j lb q y a b s t (.inl hj) hb hy h1 h2
theorem Qzu {w:World}{ops:Array Oper}{o:Oper}{a:Act}{K:Act→World→Prop}{Q:Exit→Act→World→Prop}{E:Prop}(d':Option Tmp)(hd':o.dst=d')(hgd:o.guard=none)(d s:Operand)
 (ho:o.op=.call { callee:=.builtin .copy,args:=#[d,s],argTypes:=#[36,36] })
 (A:Option Addr) (n cp B off N:Nat) (cl ces:List Int) (hd:a.eval d=.slice (cutA 1 (some ⟨B,0,none⟩) off N) (N-off) (N-off)) (hs:a.eval s=.slice A n cp)
 (hB:Blk w B 2 (Qaf cl).toArray) (hcl:cl.length=N) (hA:RdI w A n ces) (hfit:off+n≤N)
 (h:∀ w',Blk w' B 2 (Qaf (splice cl off ces)).toArray→Below B w w'→K (a.put d' (.int .i64 n)) w') :
 if Region.wanted o (yielded ops a.tmps)=true then Oper.wp prog o a w K Q else E:=by
 subst hd';have hlen:ces.length=n:=hA.1
 refine step_copy_splice hgd d s 36 36 ho 2 underlying36 (by kernel_rfl) _ A _ _ n cp hd hs B off (Qaf cl) 2 hB (Qaf ces) (by rw [show (Qaf ces).length=n by simp [Qaf,hlen]];exact (Nat.min_eq_left (by omega)).symm) (fun hp=>?_)
  (by simp [Qaf,hlen,hcl];omega) (Qao _) B w (Zr _ _) (Zn _) (fun w' h1 h2=>?_)
 · have hn:0<n:=by simpa [Qaf,hlen] using hp
   refine ⟨by unfold cutA;rw [if_neg (by omega)];by_cases h0:off=0 <;> simp [Addr.add,h0],?_⟩
   obtain ⟨z,hz⟩:∃ z,ces[0]?=some z:=⟨_,Zg (by omega)⟩;obtain ⟨b,o',e,_⟩:=hA.2 0 z hz;refine ⟨_,e,fun j v hv=>?_⟩
   have hj:∃ x,ces[j]?=some x∧v=.int .i64 x:=by
    simp [Qaf] at hv;obtain ⟨x,e1,e2⟩:=hv;exact ⟨x,e1,e2.symm⟩
   obtain ⟨x,hx,rfl⟩:=hj;obtain ⟨b2,o2,e2,hc⟩:=hA.2 j x hx;rw [e] at e2
   cases e2
   unfold Addr.add
   by_cases h0:j=0
   · rw [if_pos h0]
     subst h0;exact hc
   · rw [if_neg h0]
     exact hc
 · have hw:=h w' (by rw [←Qoc];exact h1.out) h2
   rw [show goInt (Qaf ces).length=Value.int .i64 (n:Int) by simp [Qaf,hlen,goInt]]
   exact hw
def AllR (w:World)(N:Qak) (ls:List (List Int)) (e:Ending) (w':World):Prop :=
 ∃ (B:Nat) (cl:List Int),e=.returned (.slice (some ⟨B,0,none⟩) (Qca (gatesOf N.ar ls)) (Qca (gatesOf N.ar ls)))∧w.heap.size≤B∧Blk w' B 2 (Qaf cl).toArray∧cl.length=Qca (gatesOf N.ar ls)∧Qks cl∧Qgl N ls ls.length 0 cl∧Below w.heap.size w w'
set_option maxHeartbeats 2000000 in
theorem all_ok (w:World)(g o:Nat)(N:Qak) (ls:List (List Int)) (hg:Qen w g N) (hok:Qas N) (ho:Qfw w o N.ar ls) (hP:Qbc N.vs.length ls) (hNC:Qca (gatesOf N.ar ls)≤1000000000) :
 Calls prog 14 #[.pointer (some ⟨g,0,none⟩),.pointer (some ⟨o,0,none⟩)] w (AllR w N ls):=by
 have hL6:ls.length≤6:=hP.l6;have HG:=Zh hg;have HO:=Zh ho;have HP:=Zh hP;obtain ⟨NC,hNCe⟩:∃ NC,NC=Qca (gatesOf N.ar ls):=⟨_,rfl⟩;have HSZ:=Zh (Qpd o N.ar ls w ho);rw [←hNCe] at HSZ hNC;have HNC:=Zh hNCe;obtain ⟨L,hL⟩:∃ L,L=ls.length:=⟨_,rfl⟩;have HL:=Zh hL;rw [←hL] at hL6;have hmk:=Qfe NC (by omega);clear hg ho hP hNCe hL
 go_enter func14,ntmps14
 go_wp2_with fail
 with_reducible refine HSZ.out.mono ?_
 rintro e w' ⟨rfl,rfl⟩
 go_wp2_with fail
 (refine Qai ?_;intro w1 hw1)
 have hb1:Below w.heap.size w w1:=by rw [hw1];exact Qag
 have hB1:Blk w1 w.heap.size 2 (Qaf (List.replicate NC 0)).toArray:=by rw [hw1,show (Qaf (List.replicate NC 0)).toArray=Qbv (.int .i64 0) NC by simp [Qaf,Qbv]];exact Blk.new _ _ _
 clear hw1;obtain ⟨B,hBe⟩:∃ B,B=w.heap.size:=⟨_,rfl⟩;rw [←hBe] at hb1 hB1 ⊢;have HBE:=Zh hBe;clear hBe
 go_loopw [6,7] (fun z q V=>Below B w V∧∃ (i at_:Nat) (cl:List Int),i≤L∧q=.int .i64 ((i:Int)+1)∧z=.int .i64 (at_:Nat)∧at_=Qca ((gatesOf N.ar ls).take i)∧Blk V B 2 (Qaf cl).toArray∧cl.length=NC∧Qks cl∧Qgl N ls i 0 cl) (fun _ q _=>L+1-(intOf q).toNat)
 case atStart=>exact ⟨hb1,0,0,List.replicate NC 0,Nat.zero_le _,rfl,rfl,by simp [Qca],hB1,by simp,fun z hz=>by have:=List.eq_of_mem_replicate hz;omega,Qgl.start _ _ _⟩
 case round =>
  obtain ⟨hbl,i,at_,cl,hi,rfl,rfl,hat,hB,hcl,hco,hdo⟩:=hrel;have HLV:=Zh (Qkj o N.ar ls wr (HO.out.below (by rw [←HBE.out];exact hbl)));rw [←HL.out] at HLV
  by_cases hiL:i<L
  rotate_left
  · obtain rfl:i=L:=by omega
    have i1:¬((i:Int)+1≤(i:Int)):=by omega
    have HAT:=Zh hat;have HB:=Zh hB;have HCL:=Zh hcl;have HCO:=Zh hco;have HDO:=Zh hdo;clear hat hB hcl hco hdo
    go_wp2_with fail
    with_reducible refine HLV.out.mono ?_
    rintro e w' ⟨rfl,rfl⟩
    go_wp2_with fail
    go_ret
    exact ⟨B,cl,by rw [←HNC.out];rfl,by rw [HBE.out];exact Zn _,HB.out,by rw [←HNC.out];exact HCL.out,HCO.out,by rw [←HL.out];exact HDO.out,by rw [←HBE.out];exact hbl⟩
  · have i1:(i:Int)+1≤(L:Int):=by omega
    obtain ⟨l,hl⟩:∃ l,ls[i]?=some l:=⟨_,Zg (by rw [←HL.out];exact hiL)⟩;obtain ⟨M,hM⟩:∃ M,M=(gateRow N.ar l).length:=⟨_,rfl⟩;have HM:=Zh hM;have HCE:=Zh (Qkt o i M N.ar ls l wr (HO.out.below (by rw [←HBE.out];exact hbl)) hl (by rw [←HL.out];omega) (by rw [hM,Qau]));have HLJ:=Zh hl;have HAT:=Zh hat;have HB:=Zh hB;have HCL:=Zh hcl;have HCO:=Zh hco;have HDO:=Zh hdo;have hatb:at_≤NC:=by rw [hat,HNC.out];exact Qfr _ _
    have hMb:M≤4096:=by
     have h1:=HP.out.lvl l (Zm hl);have h2:=Qcm (l:=l) (n:=(N.vs.length:Int)) (fun x hx=>h1.hi x hx) (by omega);have h3:=hok.lv;rw [hM,Qau];omega
    clear hat hB hcl hco hdo hl hM
    go_wp2_with fail
    with_reducible refine HLV.out.mono ?_
    rintro e w' ⟨rfl,rfl⟩
    go_wp2_with fail
    with_reducible refine HCE.out.mono ?_
    rintro e w' ⟨rfl,rfl⟩
    go_wp2_with fail
    clear HLV HCE
    go_loopw [6,21] (fun z q V=>Below B w V∧∃ (c at2:Nat) (cl:List Int),c≤M∧q=.int .i64 (c:Nat)∧z=.int .i64 (at2:Nat)∧at2=Qca ((gatesOf N.ar ls).take i)+Qdy ((gateRow N.ar l).take c)∧Blk V B 2 (Qaf cl).toArray∧cl.length=NC∧Qks cl∧Qgl N ls i c cl) (fun _ q _=>M-(intOf q).toNat)
    case atStart=>exact ⟨hbl,0,at_,cl,Nat.zero_le _,rfl,rfl,by rw [HAT.out];simp [Qdy],HB.out,HCL.out,HCO.out,HDO.out⟩
    case round =>
     obtain ⟨hbl2,c,at2,cl,hc,rfl,rfl,hat,hB,hcl,hco,hdo⟩:=hrel;have HAT2:=Zh hat;have HB2:=Zh hB;have HCL2:=Zh hcl;have HCO2:=Zh hco;have HDO2:=Zh hdo;clear HB HCL HCO HDO
     by_cases hcM:c<M
     rotate_left
     · obtain rfl:c=M:=by omega
       clear hat hB hcl hco hdo
       go_wp2_with fail
       go_roundw
       case rel=>exact ⟨hbl2,i+1,at2,cl,by omega,by go_num,rfl,by rw [Qdb (Qbt HLJ.out),HAT2.out,Ye (l:=gateRow N.ar l) (by rw [←HM.out];exact Zn _)],HB2.out,HCL2.out,HCO2.out,HDO2.out.up HLJ.out (by rw [←HM.out];exact Zn _)⟩
       case measure=>simp [intOf];omega
     · obtain ⟨x,hx⟩:∃ x,(gateRow N.ar l)[c]?=some x:=⟨_,Zg (by rw [←HM.out];exact hcM)⟩
       have HX:=Zh hx
       have hat3:at2+szG x≤NC:=by
        have e1:=Qjy (gateRow N.ar l) (c+1);have e2:=Qfr (gatesOf N.ar ls) (i+1);rw [Qdb (Qbt HLJ.out),←HNC.out] at e2;rw [Qcz hx] at e1;omega
       have HON:=Zh (fun V (hV:Below wr.heap.size wr V)=>one_ok V g o i c N ls l x (some ⟨B,0,none⟩) NC NC cl (HG.out.below (Zb (by rw [←HBE.out];exact hbl2) hV)) hok (HO.out.below (Zb (by rw [←HBE.out];exact hbl2) hV)) HP.out HLJ.out hx ((Blk.below hB hV hB.lt).rdI hcl) (by rw [←HNC.out];exact Zn _) hNC hco (fun j hj=>hdo.low (by omega)));have hsl:=fun W=>Rap (P:=prog) 36 2 1 underlying36 (by kernel_rfl) (by kernel_rfl) (some ⟨B,0,none⟩) NC NC at2 (NC-at2) (by omega) rfl .i64 (at2:Int) rfl W
       clear hat hB hcl hco hdo hx
       go_wp2_with fail
       refine wp_region_held_drew (S:=fun _=>True) (by kernel_rfl) trivial (fun _=>?_);refine tz 0 24 ?_;refine tz 1 25 ?_;refine tz 2 26 ?_;refine tz 3 27 ?_;refine tz 4 28 ?_;refine tz 5 29 ?_;refine tz 6 30 ?_;refine tz 7 31 ?_;refine tz 8 32 ?_;refine Zk 9 (fun K hK=>?_);go_simp;with_reducible refine (HON.out _ (Zr _ _).drew).mono ?_
       rintro e w3 ⟨A,cp,ces,rfl,hA,hent,hb3⟩;have hb23:Below wr.heap.size wr w3:=(Zr _ _).drew.trans hb3;have HB3:=Zh (Blk.below HB2.out hb23 HB2.out.lt);have HA:=Zh hA;have HE:=Zh hent;clear hA hent hb3;go_simp;refine hK.out _ _ trivial (fun _=>?_);clear hK K;refine Zk 10 (fun K hK=>?_);with_reducible refine Qzu (some 34) rfl rfl (.tmp 27) (.tmp 33) rfl A (szG x) cp B at2 NC cl ces rfl rfl HB3.out HCL2.out HA.out hat3 ?_
       intro w4 hB4 hb4;have HB4:=Zh hB4;have hbw4:Below B w w4:=hbl2.trans ((hb23.mono (by have:=HB2.out.lt;omega)).trans hb4);clear hB4 hb4 hb23;go_simp;refine hK.out _ _ trivial (fun _=>?_);clear hK K;refine tz 11 35 ?_;refine tz 12 6 ?_;refine Zd ?_
       go_wp2_with fail
       go_roundw
       case rel=>exact ⟨hbw4,c+1,at2+szG x,splice cl at2 ces,by omega,by go_num,by rw [IntWalk.i64_in _ (by omega)];rfl,by rw [Qcz HX.out,HAT2.out];omega,HB4.out,by rw [length_splice _ _ _ (by rw [HA.out.1,HCL2.out];exact hat3)];exact HCL2.out,HCO2.out.next hok HX.out HA.out.1 HE.out,by
        have:=HDO2.out.next HLJ.out HX.out HA.out.1 (by rw [HCL2.out,←HAT2.out];exact hat3) HE.out;rw [←HAT2.out] at this;exact this⟩
       case measure=>simp [intOf];omega
theorem Qrt:∀ (l:List Nat)(k:Nat),k<l.sum→∃ i,i<l.length∧(l.take i).sum≤k∧k<(l.take (i+1)).sum
 | [],k,h=>by simp at h
 | x::t,k,h=>by
  by_cases hk:k<x
  · exact ⟨0,by simp,by simp,by simpa using hk⟩
  · simp only [List.sum_cons] at h
    obtain ⟨i,h1,h2,h3⟩:=Qrt t (k-x) (by omega);refine ⟨i+1,by simp;omega,?_,?_⟩
    · simp only [List.take_succ_cons,List.sum_cons];omega
    · simp only [List.take_succ_cons,List.sum_cons] at h3 ⊢;omega
structure Qfs (N:Qak) (ls:List (List Int)) (k i:Nat) (l:List Int) (c:Nat) (x:Qam) (a b s t:Nat):Prop where
 hl:ls[i]?=some l
 hx:(gateRow N.ar l)[c]?=some x
 ha:x.1[a]?=some (s:Int)
 hb:x.2[b]?=some (t:Int)
 hk:k=Qgq (gatesOf N.ar ls) (gateRow N.ar l) i c x a b
theorem ent_ex {N:Qak} {ls:List (List Int)} {k:Nat} (hk:k<Qca (gatesOf N.ar ls)):∃ i l c x a b s t,Qfs N ls k i l c x a b s t:=by
 obtain ⟨i,h1,h2,h3⟩:=Qrt _ _ hk;rw [←List.map_take] at h2 h3;rw [List.length_map] at h1;have hi:i<ls.length:=by simpa [gatesOf] using h1
 obtain ⟨l,hl⟩:∃ l,ls[i]?=some l:=⟨_,Zg hi⟩;have e1:=Qdb (Qbt (ar:=N.ar) hl);unfold Qca at e1;rw [e1] at h3;have h4:k-((List.take i (gatesOf N.ar ls)).map Qdy).sum<Qdy (gateRow N.ar l):=by omega
 obtain ⟨c,g1,g2,g3⟩:=Qrt _ _ h4;rw [←List.map_take] at g2 g3;rw [List.length_map] at g1;obtain ⟨x,hx⟩:∃ x,(gateRow N.ar l)[c]?=some x:=⟨_,Zg g1⟩;have e2:=Qcz hx;unfold Qdy at e2;rw [e2] at g3;obtain ⟨a,b,s,t,e,f1,f2⟩:=Qql hx (k:=k-((List.take i (gatesOf N.ar ls)).map Qdy).sum-((List.take c (gateRow N.ar l)).map szG).sum) (by omega);exact ⟨i,l,c,x,a,b,s,t,hl,hx,f1,f2,by unfold Qgq Qca Qdy at *;omega⟩
theorem Qfs.lt {N:Qak} {ls:List (List Int)} {k i c a b s t:Nat} {l:List Int} {x:Qam} (h:Qfs N ls k i l c x a b s t):k<Qca ((gatesOf N.ar ls).take i)+Qdy ((gateRow N.ar l).take (c+1))∧k<Qca ((gatesOf N.ar ls).take (i+1))∧k<Qca (gatesOf N.ar ls)∧Qca ((gatesOf N.ar ls).take i)+Qdy ((gateRow N.ar l).take c)≤k:=by
 have ha:=(Zs h.ha).1;have hb:=(Zs h.hb).1;have h1:=Qrp (gs:=gatesOf N.ar ls) (i:=i) h.hx ha hb;have h2:=Qjs (Qbt (ar:=N.ar) h.hl) h.hx ha hb;have h3:=Qfr (gatesOf N.ar ls) (i+1);rw [←h.hk] at h1 h2;exact ⟨h1,h2,by omega,by rw [h.hk];unfold Qgq;omega⟩
theorem Qfs.inj {N:Qak} {ls:List (List Int)} {k i c a b s t i' c' a' b' s' t':Nat} {l l':List Int} {x x':Qam} (h:Qfs N ls k i l c x a b s t) (g:Qfs N ls k i' l' c' x' a' b' s' t') :
 i=i'∧l=l'∧c=c'∧x=x'∧a=a'∧b=b'∧s=s'∧t=t':=by
 have h1:=h.lt;have g1:=g.lt
 have hi:i=i':=by
  rcases Nat.lt_trichotomy i i' with e|e|e
  · have:=Qii (gatesOf N.ar ls) (show i+1≤i' from e);omega
  · exact e
  · have:=Qii (gatesOf N.ar ls) (show i'+1≤i from e);omega
 subst hi;have hl:l=l':=by have:=h.hl;rw [g.hl] at this;cases this;rfl
 subst hl
 have hc:c=c':=by
  rcases Nat.lt_trichotomy c c' with e|e|e
  · have:=Qhz (gateRow N.ar l) (show c+1≤c' from e);omega
  · exact e
  · have:=Qhz (gateRow N.ar l) (show c'+1≤c from e);omega
 subst hc;have hx:x=x':=by have:=h.hx;rw [g.hx] at this;cases this;rfl
 subst hx;have hb:=(Zs h.hb).1;have hb':=(Zs g.hb).1;have e:a*x.2.length+b=a'*x.2.length+b':=by have e1:=h.hk;have e2:=g.hk;unfold Qgq at e1 e2;omega
 have hab:a=a':=by
  rcases Nat.lt_trichotomy a a' with e3|e3|e3
  · have:(a+1)*x.2.length≤a'*x.2.length:=Nat.mul_le_mul_right _ e3
    rw [Nat.add_mul,Nat.one_mul] at this;omega
  · exact e3
  · have:(a'+1)*x.2.length≤a*x.2.length:=Nat.mul_le_mul_right _ e3
    rw [Nat.add_mul,Nat.one_mul] at this;omega
 subst hab;have hbb:b=b':=by omega
 subst hbb;have hs:=h.ha;rw [g.ha] at hs;have ht:=h.hb;rw [g.hb] at ht;have hs2:(s':Int)=(s:Int):=Yv hs;have ht2:(t':Int)=(t:Int):=Yv ht;exact ⟨rfl,rfl,rfl,rfl,rfl,rfl,by omega,by omega⟩
def EntV (N:Qak) (ls:List (List Int)) (k:Nat) (v:Int):Prop:=∃ i l c x a b s t,Qfs N ls k i l c x a b s t∧Qgx N (Qeu l c) s t v
theorem EntV.uniq {N:Qak} {ls:List (List Int)} {k:Nat} {v v':Int} (h:EntV N ls k v) (g:EntV N ls k v'):v=v':=by
 obtain ⟨i,l,c,x,a,b,s,t,h1,h2⟩:=h;obtain ⟨i',l',c',x',a',b',s',t',g1,g2⟩:=g;obtain ⟨rfl,rfl,rfl,rfl,rfl,rfl,rfl,rfl⟩:=h1.inj g1;exact h2.uniq g2
def RowE (N:Qak) (ls:List (List Int)) (cl:List Int):Prop:=∀ (k:Nat) (v:Int),cl[k]?=some v→EntV N ls k v
structure Qdh (N:Qak) (ls:List (List Int)) (cl:List Int):Prop where
 len:cl.length=Qca (gatesOf N.ar ls)
 row:RowE N ls cl
theorem Qdh.uniq {N:Qak} {ls:List (List Int)} {cl cl':List Int} (h:Qdh N ls cl) (g:Qdh N ls cl'):cl=cl':=by
 refine List.ext_getElem? (fun k=>?_)
 rcases Nat.lt_or_ge k cl.length with e|e
 · have e':k<cl'.length:=by rw [g.len,←h.len];exact e
   rw [Zg e,Zg e',(h.row k _ (Zg e)).uniq (g.row k _ (Zg e'))]
 · rw [Yd e,Yd (by rw [g.len,←h.len];exact e)]
theorem Qgl.all {N:Qak} {ls:List (List Int)} {cl:List Int} (h:Qgl N ls ls.length 0 cl) (hl:cl.length=Qca (gatesOf N.ar ls)):Qdh N ls cl:=by
 refine ⟨hl,fun k v hk=>?_⟩;obtain ⟨i,l,c,x,a,b,s,t,he⟩:=ent_ex (k:=k) (by rw [←hl];exact (Zs hk).1);refine ⟨i,l,c,x,a,b,s,t,he,?_⟩;have h1:=h i l c x a b s t (.inl (Zs he.hl).1) he.hl he.hx he.ha he.hb;rw [←he.hk,Ya,hk] at h1;exact h1
theorem Qdh.at_ {N:Qak} {ls:List (List Int)} {cl:List Int} (h:Qdh N ls cl) {k i c a b s t:Nat} {l:List Int} {x:Qam} (he:Qfs N ls k i l c x a b s t):∃ v,cl[k]?=some v∧Qgx N (Qeu l c) s t v:=by
 obtain ⟨v,hv⟩:∃ v,cl[k]?=some v:=⟨_,Zg (by rw [h.len];exact he.lt.2.2.1)⟩;obtain ⟨i',l',c',x',a',b',s',t',g1,g2⟩:=h.row k v hv;obtain ⟨rfl,rfl,rfl,rfl,rfl,rfl,rfl,rfl⟩:=he.inj g1;exact ⟨v,hv,g2⟩
theorem Qdh.cost {N:Qak}(hok:Qas N) {ls:List (List Int)} {cl:List Int} (h:Qdh N ls cl):Qks cl:=fun z hz=>by
 obtain ⟨k,hk⟩:=Yr hz;obtain ⟨i,l,c,x,a,b,s,t,_,h2⟩:=h.row k z hk;have:=h2.bd hok;omega
def StW (N:Qak):Qbz:=fun a b d=>∃ y,N.ar[b]?=some y∧Qaw N a b≠1152921504606846976∧y.2.2≠1152921504606846976∧d=Qaw N a b+y.2.2
theorem StA.all {N:Qak}{mk:List Bool}{a b:Nat}{d:Int}(h:StA N mk a b d):StW N a b d:=by
 obtain ⟨y,h1,h2,h3,_,_,h4⟩:=h;exact ⟨y,h1,h2,h3,h4⟩
def Qdu (ls:List (List Int)) (i:Nat) (v:Int) (av:List Int):Prop:=∃ l,ls[i]?=some l∧∀ x∈av,Qad l v≠Qad l x
noncomputable def Qjk (ls:List (List Int)) (v:Int) (av:List Int):Nat→Nat
 | 0=>0
 | n+1=>by classical exact if Qdu ls n v av then n+1 else Qjk ls v av n
noncomputable def Qfy (ls:List (List Int)) (v:Int) (av:List Int):Nat:=Qjk ls v av ls.length
section
variable {ls:List (List Int)} {v:Int} {av:List Int}
theorem Qiw:∀ n,Qjk ls v av n≤n
 | 0=>Zn _
 | n+1=>by
  have:=Qiw n;unfold Qjk
  split <;> omega
theorem Qtb:∀ n j,Qjk ls v av n=j+1→Qdu ls j v av
 | 0,j,h=>by unfold Qjk at h;omega
 | n+1,j,h=>by
  unfold Qjk at h
  split at h
  · rename_i h1
    obtain rfl:n=j:=by omega
    exact h1
  · exact Qtb n j h
theorem Qud:∀ n j,j<n→Qdu ls j v av→j+1≤Qjk ls v av n
 | 0,j,h,_=>by omega
 | n+1,j,h,h1=>by
  unfold Qjk
  split
  · omega
  · rename_i h2
    refine Qud n j ?_ h1
    by_cases e:j=n
    · subst e;exact absurd h1 h2
    · omega
theorem Qdl {j:Nat}(h:Qfy ls v av=j+1):Qdu ls j v av:=Qtb _ _ h
theorem Qhl {j:Nat}(h:Qdu ls j v av):j+1≤Qfy ls v av:=by
 obtain ⟨l,hl,h1⟩:=id h;exact Qud _ _ (Zs hl).1 ⟨l,hl,h1⟩
end
theorem Qof {n:Nat} {ls:List (List Int)} (hP:Qbc n ls) {i:Nat} {l:List Int} (hi:ls[i]?=some l) {u v:Nat} (hu:u<n) (hv:v<n) (h:Qad l (u:Int)=Qad l (v:Int)):∀ (k:Nat) (l':List Int),ls[i+k]?=some l'→Qad l' (u:Int)=Qad l' (v:Int)
 | 0,l',hl=>by
  rw [Nat.add_zero,hi] at hl
  cases hl
  exact h
 | k+1,l',hl=>by
  obtain ⟨m,hm⟩:∃ m,ls[i+k]?=some m:=⟨_,Zg (by have:=(Zs hl).1;omega)⟩;have ih:=Qof hP hi hu hv h k m hm
  apply Classical.byContradiction
  intro hne;exact Qfv (hP.nest (i+k) m l' hm hl) (hP.lvl l' (Zm hl)).len (hP.lvl m (Zm hm)).len hu hv hne ih
def HSt (N:Qak) (ls:List (List Int)) (av:List Int):Qbz:=fun a b d =>
 (Qfy ls (toV N a) av=0∧StW N a b d) ∨
 ∃ j l y z v,Qfy ls (toV N a) av=j+1∧ls[j]?=some l∧N.ar[a]?=some y∧N.ar[b]?=some z∧Qad l y.1≠Qad l y.2.1∧Qad l z.1=Qad l y.2.1∧Qad l z.2.1≠Qad l y.2.1∧z.2.2≠1152921504606846976∧Qgx N (Qeu l (Qad l y.2.1)) a b v∧v≠1152921504606846976∧d=v+z.2.2
section
variable {N:Qak} {ls:List (List Int)} {av:List Int} {s t:Nat}
theorem StW.ends {a b:Nat}{d:Int}(h:StW N a b d):∃ x y,N.ar[a]?=some x∧N.ar[b]?=some y∧x.2.1=y.1∧Qaw N a b≠1152921504606846976∧y.2.2≠1152921504606846976∧d=Qaw N a b+y.2.2:=by
 obtain ⟨y,hy,h1,h2,h3⟩:=h;obtain ⟨x,y',hx,hy',e⟩:=Qcg h1;rw [hy] at hy'
 cases hy'
 exact ⟨x,y,hx,hy,e,h1,h2,h3⟩
theorem HSt.up {a b:Nat}{d:Int}(h:HSt N ls av a b d):Rch (StW N) a b d:=by
 rcases h with ⟨_,h⟩|⟨j,l,y,z,v,_,_,_,hz,_,_,_,h7,h8,h9,rfl⟩
 · have:=Rch.start.step h
   rwa [Int.zero_add] at this
 · rcases h8 with ⟨⟨p,c,e,g1,g2,rfl⟩,_⟩|⟨g,_⟩
   · have:=(g1.mono (fun _ _ _ h=>h.all)).step (show StW N p b (e+z.2.2) from ⟨z,hz,g2.1,h7,by rw [g2.2]⟩)
     rwa [←Int.add_assoc] at this
   · exact absurd g h9
theorem Qyu {p:Nat}{c:Int} (h:Rch (HSt N ls av) s p c):Rch (StW N) s p c:=by
 induction h with
 | start=>exact .start
 | step _ h2 ih=>exact ih.trans h2.up
theorem Qgj (hok:Qas N){a:Nat}{x:Tri} (h:N.ar[a]?=some x):∃ u v:Nat,x.1=(u:Int)∧x.2.1=(v:Int)∧u<N.vs.length∧v<N.vs.length:=by
 have o:=hok.arcs x (Zm h);have a0:=o.f0;have a1:=o.f1;have b0:=o.g0;have b1:=o.g1;exact ⟨x.1.toNat,x.2.1.toNat,by omega,by omega,by omega,by omega⟩
def Raq (N:Qak) (ls:List (List Int)) (av:List Int) (a:Nat):Prop:=∀ j l y,Qfy ls (toV N a) av=j+1→ls[j]?=some l→N.ar[a]?=some y→Qad l y.1≠Qad l y.2.1
theorem Qmk (hs:toV N s∈av):Raq N ls av s:=fun j l y h hl hy=>by
 obtain ⟨l',hl',h1⟩:=Qdl h;exact absurd rfl (h1 _ hs)
theorem Qow {a b:Nat}{x y:Tri} (hx:N.ar[a]?=some x) (hy:N.ar[b]?=some y) (e:x.2.1=y.1) (h0:Qfy ls (toV N a) av=0):Raq N ls av b:=fun j l y' h hl hy' hc=>by
 rw [hy] at hy'
 cases hy'
 obtain ⟨l',hl',h1⟩:=Qdl h;rw [hl] at hl'
 cases hl'
 rw [(Qbq hy).1] at h1;have:=Qhl (ls:=ls) (v:=toV N a) (av:=av) (j:=j) ⟨l,hl,fun v hv=>by rw [(Qbq hx).1,e,hc];exact h1 v hv⟩;omega
theorem Qpk (hok:Qas N)(hP:Qbc N.vs.length ls){a b i:Nat}{l:List Int}{y z:Tri} (hy:N.ar[a]?=some y) (hz:N.ar[b]?=some z) (hi:Qfy ls (toV N a) av=i+1) (hl:ls[i]?=some l)
 (h1:Qad l z.1=Qad l y.2.1) (h2:Qad l z.2.1≠Qad l y.2.1):Raq N ls av b:=fun j l' z' hj hl' hz' hc=>by
 rw [hz] at hz'
 cases hz'
 obtain ⟨l'',hl'',g1⟩:=Qdl hj;rw [hl'] at hl''
 cases hl''
 rw [(Qbq hz).1] at g1;obtain ⟨u,v,e1,e2,hu,hv⟩:=Qgj hok hz;obtain ⟨_,v',_,e3,_,hv'⟩:=Qgj hok hy;rw [e1,e2] at hc;rw [e2] at g1;rw [e1,e3] at h1;rw [e2,e3] at h2
 rcases Nat.lt_or_ge i j with hij|hij
 · have e4:=Qof hP hl hu hv' h1 (j-i) l' (by rw [show i+(j-i)=j by omega];exact hl')
   have:=Qhl (ls:=ls) (v:=toV N a) (av:=av) (j:=j) ⟨l',hl',fun v hv=>by rw [(Qbq hy).1,e3,←e4,hc];exact g1 v hv⟩;omega
 · have e4:=Qof hP hl' hu hv hc (i-j) l (by rw [show j+(i-j)=i by omega];exact hl)
   exact h2 (by rw [←e4];exact h1)
theorem ent_le (hok:Qas N){mk:List Bool}{a p q:Nat}{c e v:Int} (hr:Rch (StA N mk) a p c) (ho:OuA N p q e) (hv:Qgx N mk a q v):v≤c+e∧v≠1152921504606846976:=by
 rcases hv with ⟨⟨p',c1,e',k1,k2,rfl⟩,k3⟩|⟨_,k3⟩
 · refine ⟨k3 _ ⟨p,c,e,hr,ho,rfl⟩,?_⟩
   obtain ⟨c2,h10,h11⟩:=Qje hok p' c1 k1;have b2:=OuA.bd hok k2;have:=k3 _ ⟨p',c2,e',h10,k2,rfl⟩;unfold MB at h11;omega
 · exact absurd ⟨p,c,e,hr,ho,rfl⟩ (k3 _)
theorem Qpc (hok:Qas N)(hP:Qbc N.vs.length ls) (hE:∀ (j:Nat) (l:List Int) (a b:Nat) (y z:Tri),ls[j]?=some l→N.ar[a]?=some y→N.ar[b]?=some z→Qad l y.1≠Qad l y.2.1→Qad l z.1=Qad l y.2.1→Qad l z.2.1≠Qad l y.2.1→∃ v,Qgx N (Qeu l (Qad l y.2.1)) a b v)
 {p:Nat} {c:Int} (h:Rch (StW N) s p c) (hs:∃ x,N.ar[s]?=some x) (hav:toV N s∈av):∃ a c1 c2,Rch (HSt N ls av) s a c1∧Raq N ls av a∧c1+c2≤c ∧
  ((Qfy ls (toV N a) av=0∧p=a∧c2=0)∨∃ j l y,Qfy ls (toV N a) av=j+1∧ls[j]?=some l∧N.ar[a]?=some y∧Rch (StA N (Qeu l (Qad l y.2.1))) a p c2):=by
 -- an arc that the search comes to, whatever its level
 have fresh:∀ (q:Nat) (e:Int),Rch (HSt N ls av) s q e→Raq N ls av q→(∃ x,N.ar[q]?=some x)→∀ f,e≤f→∃ a c1 c2,Rch (HSt N ls av) s a c1∧Raq N ls av a∧c1+c2≤f ∧
  ((Qfy ls (toV N a) av=0∧q=a∧c2=0)∨∃ j l y,Qfy ls (toV N a) av=j+1∧ls[j]?=some l∧N.ar[a]?=some y∧Rch (StA N (Qeu l (Qad l y.2.1))) a q c2):=by
  intro q e hq hg ⟨x,hx⟩ f hf;refine ⟨q,e,0,hq,hg,by omega,?_⟩
  cases hlv:Qfy ls (toV N q) av with
  | zero=>exact .inl ⟨rfl,rfl,rfl⟩
  | succ j =>
   obtain ⟨l,hl,_⟩:=Qdl hlv;exact .inr ⟨j,l,x,rfl,hl,hx,.start⟩
 induction h with
 | start=>exact fresh s 0 .start (Qmk hav) hs 0 (Int.le_refl _)
 | @step p q c d h1 h2 ih =>
  obtain ⟨a,c1,c2,g1,g2,g3,g4⟩:=ih;obtain ⟨x,w,hx,hw,e,k1,k2,rfl⟩:=h2.ends
  rcases g4 with ⟨h0,rfl,rfl⟩|⟨j,l,y,hj,hl,hy,hr⟩
  · exact fresh q (c1+(Qaw N p q+w.2.2)) (g1.step (.inl ⟨h0,h2⟩)) (Qow hx hw e h0) ⟨w,hw⟩ _ (by omega)
  · have hlen:=(hP.lvl l (Zm hl)).len
    -- where p ends: within the cell
    have hpc:Qad l x.2.1=Qad l y.2.1:=by
     cases hr with
     | start =>
      rw [hx] at hy
      cases hy
      rfl
     | step _ h4 =>
      obtain ⟨_,x',_,hx',_,_,_,_,h5,_⟩:=(Qdd hok hlen).1 h4;rw [hx] at hx'
      cases hx'
      exact h5
    by_cases hin:Qad l w.2.1=Qad l y.2.1
    · refine ⟨a,c1,c2+(Qaw N p q+w.2.2),g1,g2,by omega,.inr ⟨j,l,y,hj,hl,hy,hr.step ((Qdd hok hlen).2 ⟨x,w,hx,hw,e,k1,k2,?_,hin,rfl⟩)⟩⟩
      rw [←e];exact hpc
    · have hfr:Qad l w.1=Qad l y.2.1:=by rw [←e];exact hpc
      have hen:=g2 j l y hj hl hy;obtain ⟨v,hv⟩:=hE j l a q y w hl hy hw hen hfr hin;obtain ⟨hle,hne⟩:=ent_le hok hr ⟨k1,rfl⟩ hv;exact fresh q (c1+(v+w.2.2)) (g1.step (.inr ⟨j,l,y,w,v,hj,hl,hy,hw,hen,hfr,hin,k2,hv,hne,rfl⟩)) (Qpk hok hP hy hw hj hl hfr hin) ⟨w,hw⟩ _ (by omega)
theorem Qms (hok:Qas N)(hP:Qbc N.vs.length ls) (hE:∀ (j:Nat) (l:List Int) (a b:Nat) (y z:Tri),ls[j]?=some l→N.ar[a]?=some y→N.ar[b]?=some z→Qad l y.1≠Qad l y.2.1→Qad l z.1=Qad l y.2.1→Qad l z.2.1≠Qad l y.2.1→∃ v,Qgx N (Qeu l (Qad l y.2.1)) a b v)
 (hs:∃ x,N.ar[s]?=some x) (hav:toV N s∈av) (hat:frV N t∈av) {v:Int} (h:Lst (Rch (HSt N ls av) s t) v):Lst (Rch (StW N) s t) v:=by
 refine h.conv (fun c hc=>⟨c,Qyu hc,Int.le_refl _⟩) (fun c hc=>?_);obtain ⟨a,c1,c2,g1,g2,g3,g4⟩:=Qpc hok hP hE hc hs hav
 rcases g4 with ⟨_,rfl,rfl⟩|⟨j,l,y,hj,hl,hy,hr⟩
 · exact ⟨c1,g1,by omega⟩
 · have hlen:=(hP.lvl l (Zm hl)).len
   cases hr with
   | start=>exact ⟨c1,g1,by omega⟩
   | step _ h4 =>
    obtain ⟨_,w,_,hw,_,_,_,h5,_,_⟩:=(Qdd hok hlen).1 h4;obtain ⟨l',hl',h6⟩:=Qdl hj;rw [hl] at hl'
    cases hl'
    have h6:=h6 _ hat;rw [(Qbq hy).1,(Qbq hw).2.1] at h6;exact absurd h5.symm h6
end
def dAt (d:List Int)(a:Nat):Int:=d.getD a 1152921504606846976
theorem Qfn {d:List Int}{a:Nat}{v:Int} (h:d[a]?=some v):dAt d a=v:=by unfold dAt;rw [Ya,h];rfl
section
variable {N:Qak} {mk:List Bool} {s t:Nat} {d:List Int} {best:Int}
end
def Qhe (N:Qak)(a:Nat):List Int:=match N.ar[a]? with
 | some x=>(idx (·.1) N.ar x.2.1).filter (fun b=>Qaw N a b.toNat != 1152921504606846976)
 | none=>[]
def Qqu (N:Qak)(a:Nat):List Int:=(Qhe N a).map (fun b=>Qaw N a b.toNat)
def Qmg (N:Qak):List (List Int):=(List.range N.ar.length).map (Qhe N)
def Qmi (N:Qak):List (List Int):=(List.range N.ar.length).map (Qqu N)
theorem Quo {N:Qak}{a:Nat}(h:a<N.ar.length):(Qmg N)[a]?=some (Qhe N a):=by
 unfold Qmg;rw [Yt,List.getElem?_range h]
 rfl
theorem Qvb {N:Qak}{a:Nat}(h:a<N.ar.length):(Qmi N)[a]?=some (Qqu N a):=by
 unfold Qmi;rw [Yt,List.getElem?_range h]
 rfl
theorem Qxw {N:Qak}{a:Nat}{z:Int}:z∈Qhe N a↔∃ b:Nat,z=(b:Int)∧Qaw N a b≠1152921504606846976:=by
 unfold Qhe
 cases hx:N.ar[a]? with
 | none =>
  simp only [List.not_mem_nil,false_iff,not_exists,not_and];rintro b rfl h;obtain ⟨x,_,e,_⟩:=Qcg h;rw [hx] at e
  cases e
 | some x =>
  simp only [List.mem_filter,Qfm]
  constructor
  · rintro ⟨⟨b,y,rfl,_,_⟩,h2⟩
    exact ⟨b,rfl,by simpa using h2⟩
  · rintro ⟨b,rfl,h⟩
    obtain ⟨x',y,e1,e2,e3⟩:=Qcg h;rw [hx] at e1
    cases e1
    exact ⟨⟨b,y,rfl,e2,e3.symm⟩,by simpa using h⟩
theorem nxt_len (N:Qak)(a:Nat):(Qhe N a).length≤N.ar.length:=by
 unfold Qhe
 cases hx:N.ar[a]? with
 | none=>simp
 | some x =>
  have h:=Qep (·.1) N.ar N.ar.length x.2.1;rw [List.take_length] at h;exact Yx (List.length_filter_le _ _) h
theorem trn_len (N:Qak)(a:Nat):(Qqu N a).length=(Qhe N a).length:=by simp [Qqu]
theorem nxt_at {N:Qak}{a k:Nat} (h:k<(Qhe N a).length):∃ b:Nat,(Qhe N a)[k]?=some (b:Int)∧(Qqu N a)[k]?=some (Qaw N a b)∧Qaw N a b≠1152921504606846976∧b<N.ar.length:=by
 obtain ⟨z,hz⟩:∃ z,(Qhe N a)[k]?=some z:=⟨_,Zg h⟩;obtain ⟨b,rfl,hb⟩:=Qxw.1 (Zm hz);obtain ⟨_,y,_,e,_⟩:=Qcg hb;refine ⟨b,hz,?_,hb,(Zs e).1⟩;unfold Qqu;rw [Yt,hz]
 rfl
theorem Qib (Q:Option Addr)(L cq i:Nat)(w:World)(hi:i<L) :
 Calls prog 67 #[.agg #[.slice Q L cq],.int .i64 ((i:Int)+1)] w fun r w'=>r=.returned (.bool true)∧Below w.heap.size w w':=by
 have i1:(1:Int)≤(i:Int)+1:=by omega
 have i2:(i:Int)+1≤(L:Int):=by omega
 go_enter func67,ntmps67
 exact Kaz
set_option maxHeartbeats 2000000 in
theorem Qhj (A B C Q:Option Addr)(n m k c d e L cq li:Nat)(N:Qak) (ls:List (List Int)) (l:List Int) (w:World) (h:Qbg w A B C n m k N) (hok:Qas N) (hq:RdT w Q L ls) (hl:ls[li]?=some l) (hll:l.length=N.vs.length) (hL:L≤1000000) :
 Calls prog 112 #[.agg #[.slice A n c,.slice B m d,.slice C k e],.agg #[.slice Q L cq],.int .i64 ((li:Int)+1)] w fun r w'=>∃ A' n' c',r=.returned (.slice A' n' c')∧RdI w' A' n' (Qax N.ar l)∧(∀ b,Qac A'=some b→w.heap.size≤b)∧Below w.heap.size w w':=by
 have HH:=Zh h;have HM:=Zh h.2.1.1;have hm:m≤16384:=by rw [←h.2.1.1];exact hok.la
 have hliL:li<L:=by rw [←hq.1];exact (Zs hl).1
 obtain ⟨qb,qo,LA,ln,lc,l',rfl,hl',q1,q2,q3,q4⟩:=hq.at_ hliL;rw [hl] at hl'
 cases hl'
 have hln:ln=N.vs.length:=by rw [←q2.1];exact hll
 have i5:(li:Int)+1-1=(li:Int):=by omega
 have i6:(li:Int)<(L:Int):=by omega
 have i7:(0:Int)≤(li:Int):=by omega
 have wl:IntKind.i64.wrap (li:Int)=(li:Int):=IntWalk.i64_in _ (by omega);have HQ:=Zh q2;have HQ1:=Zh q1;have HLN:=Zh hln;have hlv:=hok.lv;have HAR:=Zh hok.arcs;clear h hq hl q1 q2 q3 q4 hll hln hok
 go_enter func112,ntmps112
 go_wp2_with fail
 (refine Qai ?_;intro w1 hw1)
 have hb1:Below w.heap.size w w1:=by rw [hw1];exact Qag
 have hX:Blk w1 w.heap.size 26 #[.slice A n c,.slice B m d,.slice C k e]:=by
  rw [hw1];refine Blk.alloc ?_ _;exact Blk.new _ _ _
 have hY:Blk w1 (w.heap.size+1) 29 #[.slice (some ⟨qb,qo,none⟩) L cq]:=by
  rw [hw1];refine Blk.new' _ _ _ ?_;simp
 clear hw1
 go_loopw [7,8] (fun z q V=>∃ (i:Nat) (A':Option Addr) (c':Nat),i≤m∧q=.int .i64 i∧z=.slice A' (Qin (Qcj l) (N.ar.take i)).length c'∧Own V w1.heap.size 3 1 A' (Qin (Qcj l) (N.ar.take i)).length c' (Qaf (Qin (Qcj l) (N.ar.take i)))∧Below w1.heap.size w1 V) (fun _ q _=>m-(intOf q).toNat)
 case atStart=>exact ⟨0,none,0,Nat.zero_le _,rfl,rfl,Own.nil _ _ _ _,Zr _ _⟩
 case round =>
  obtain ⟨i,A',c',hi,rfl,rfl,hown,hbl⟩:=hrel;have hXr:=hX.below hbl hX.lt;have hYr:=hY.below hbl hY.lt;have x1:=hXr.cell 1;have xl:=hXr.lt;have y0:=hYr.cell 0;have yl:=hYr.lt;simp only [Yo,Yn,List.getElem?_cons_succ] at x1 y0;have hbd:(Qin (Qcj l) (N.ar.take i)).length≤i:=Yx (Qfp _ _) (by rw [Yw];omega);have HOW:=Zh hown;obtain ⟨no,hno⟩:∃ no,no=(Qin (Qcj l) (N.ar.take i)).length:=⟨_,rfl⟩;rw [←hno] at hbd ⊢;have HNO:=Zh hno;clear hown hno
  by_cases hlt:i<m
  rotate_left
  · obtain rfl:i=m:=by omega
    have i1:¬((i:Int)<(i:Int)):=by omega
    go_wp2_with fail
    go_ret
    refine ⟨A',no,⟨c',rfl⟩,?_,fun b hb=>by have:=(HOW.out.lt b hb).1;have:=hb1.size;omega,Zb hb1 hbl⟩;have:=HOW.out.rds.rdI;rw [Ye (by rw [HM.out];exact Zn _)] at this;rw [HNO.out,Ye (by rw [HM.out];exact Zn _)];exact this
  · have i1:(i:Int)<(m:Int):=by omega
    have i2:(0:Int)≤(i:Int):=by omega
    go_wp2_with fail
    with_reducible refine (Qib _ L cq li wr hliL).mono ?_
    rintro r w2 ⟨rfl,hb2⟩;have hbl2:=Zb hbl hb2;have HOW2:=Zh (HOW.out.below hb2);have hbw:=Zb hb1 hbl2;clear x1 xl y0 yl hXr hYr hb2 hbl HOW;obtain ⟨y,hy⟩:∃ y,N.ar[i]?=some y:=⟨_,Zg (by rw [HM.out];exact hlt)⟩;obtain ⟨b,o,rfl,c0,c1,c2⟩:=(HH.out.below hbw).2.1.2 i y hy;have ho:=HAR.out y (Zm hy);have f0:=ho.f0;have f1:=ho.f1;have g0:=ho.g0;have g1:=ho.g1;obtain ⟨u,hu⟩:∃ u:Nat,y.1=(u:Int):=⟨y.1.toNat,by omega⟩;obtain ⟨v,hv⟩:∃ v:Nat,y.2.1=(v:Int):=⟨y.2.1.toNat,by omega⟩;rw [hu] at c0;rw [hv] at c1;have hun:u<ln:=by rw [HLN.out];omega
    have hvn:v<ln:=by rw [HLN.out];omega
    obtain ⟨b1,o1,z1,rfl,hz1,d1⟩:=(HQ.out.below hbw).at_ hun;obtain ⟨b1',o1',z2,e',hz2,d2⟩:=(HQ.out.below hbw).at_ hvn
    cases e'
    have hqc:=Zc hbw (Zn _) HQ1.out;have hXr:=hX.below hbl2 hX.lt;have hYr:=hY.below hbl2 hY.lt
    have hcr:Qcj l y=(z1 != z2):=by
     unfold Qcj;rw [hu,hv,Qat hz1,Qat hz2]
    have j1:(u:Int)<(ln:Int):=by omega
    have j2:(v:Int)<(ln:Int):=by omega
    have j3:(0:Int)≤(u:Int):=by omega
    have j4:(0:Int)≤(v:Int):=by omega
    have HY:=Zh hy;have HCR:=Zh hcr
    have HSX:=Zh (show ∀ V,Below w2.heap.size w2 V→V.cell? ⟨w.heap.size,1,none⟩=some (.slice (some ⟨b,o,none⟩) m d)∧V.cell? ⟨w.heap.size+1,0,none⟩=some (.slice (some ⟨qb,qo,none⟩) L cq)∧V.cell? ⟨qb,qo+li,none⟩=some (.slice (some ⟨b1,o1,none⟩) ln lc)∧V.cell? ⟨b,o+i*3,none⟩=some (.int .i64 u)∧V.cell? ⟨b,o+i*3+1,none⟩=some (.int .i64 v)∧V.cell? ⟨b1,o1+u,none⟩=some (.int .i64 z1)∧V.cell? ⟨b1,o1+v,none⟩=some (.int .i64 z2) from
     fun V hV=>⟨by rw [(hXr.below hV hXr.lt).cell];rfl,by rw [(hYr.below hV hYr.lt).cell];rfl,Zc hV (Zn _) hqc,Zc hV (Zn _) c0,Zc hV (Zn _) c1,Zc hV (Zn _) d1,Zc hV (Zn _) d2⟩)
    clear hy hcr c0 c1 c2 d1 d2 hqc hXr hYr hu hv hz1 hz2 f0 f1 g0 g1 ho
    go_wp2_with fail
    refine wp_region_held_drew (S:=fun V=>Below w2.heap.size w2 V) (by kernel_rfl) (Zr _ _).drew (fun _=>?_);refine tz 0 21 ?_;refine tz 1 22 ?_;refine tz 2 23 ?_;refine tz 3 24 ?_;refine tz 4 25 ?_;refine tz 5 26 ?_;refine tz 6 27 ?_;refine tz 7 28 ?_;refine tz 8 29 ?_;refine tz 9 30 ?_;refine tz 10 31 ?_;refine tz 11 32 ?_;refine tz 12 33 ?_;refine tz 13 34 ?_;refine tz 14 35 ?_;refine tz 15 36 ?_;refine tz 16 37 ?_;refine tz 17 38 ?_;refine tz 18 39 ?_;refine tz 19 40 ?_;refine tz 20 41 ?_;refine tz 21 42 ?_;refine tz 22 43 ?_;refine tz 23 44 ?_;refine tz 24 45 ?_;refine tz 25 46 ?_;refine tz 26 47 ?_;refine tz 27 48 ?_;refine tz 28 49 ?_;refine Zd ?_;clear HSX
    by_cases hv:z1=z2
    · have e1:(z1 != z2)=false:=by simpa using hv
      have HN1:=Zh (show Qin (Qcj l) (N.ar.take (i+1))=Qin (Qcj l) (N.ar.take i) by rw [Qkn HY.out,HCR.out,e1];simp)
      have HE:=Zh hv;clear hv
      go_wp2_with fail
      go_roundw
      case rel=>exact ⟨i+1,A',c',by omega,by go_num,by rw [HN1.out,HNO.out],by rw [HN1.out];exact HOW2.out.drew,hbl2.drew⟩
      case measure=>simp [intOf];omega
    · have e1:(z1 != z2)=true:=by simpa using hv
      obtain ⟨W1,hW1⟩:∃ W1,W1=w2.drew:=⟨_,rfl⟩;have hbW1:Below w1.heap.size w1 W1:=by rw [hW1];exact hbl2.drew
      have hown2:Own W1 w1.heap.size 3 1 A' no c' (Qaf (Qin (Qcj l) (N.ar.take i))):=by
       rw [hW1];have:=HOW2.out;rw [←HNO.out] at this;exact this.drew
      rw [←hW1];obtain ⟨W2,hW2⟩:∃ W2,W2=W1.alloc (.cells #[.int .i64 i] 3):=⟨_,rfl⟩;have hown3:Own W2 w1.heap.size 3 1 A' no c' (Qaf (Qin (Qcj l) (N.ar.take i))):=by rw [hW2];exact hown2.alloc _
      have hrd:Rds W2 1 (some ⟨W1.heap.size,0,none⟩) 1 (Qaf [(i:Int)]):=by rw [hW2];exact (Blk.new W1 3 #[.int .i64 i]).rds rfl
      have hba:Below w1.heap.size w1 W2:=by rw [hW2];exact Below.alloc hbW1 hbW1.size _
      have hsz:w1.heap.size≤W2.heap.size:=hba.size;have HW2:=Zh hW2;have HE:=Zh hv;clear hW2 hown2 hv hW1 hbW1
      go_wp2_with (at_builtin;rw [←HW2.out];with_reducible refine Qan rfl (.tmp 50) (.tmp 52) 61 rfl 3 _ 1 8 Qbs underlying61 rfl (by omega) rfl rfl hown3 hrd (Qao _) (by omega) (by omega) hsz ?_)
      intro A3 c3 w8 ho8 hg8 _;have hb8:Below w1.heap.size w1 w8:=Zo hba hg8 hown3 hsz;have HN0:=Zh (show Qin (Qcj l) (N.ar.take (i+1))=Qin (Qcj l) (N.ar.take i) ++[(i:Int)] by rw [Qkn HY.out,HCR.out,e1,if_pos rfl])
      have HO8:=Zh (show Own w8 w1.heap.size 3 1 A3 (no+1) c3 (Qaf (Qin (Qcj l) (N.ar.take (i+1)))) by rw [HN0.out,Qbr];exact ho8)
      have HN1:=Zh (show (Qin (Qcj l) (N.ar.take (i+1))).length=no+1 by rw [HN0.out,Yp,←HNO.out];rfl)
      exact Kbg
set_option maxHeartbeats 1000000 in
theorem never_ok (n:Nat)(w:World)(hn:n≤1000000):Calls prog 110 #[.int .i64 n] w fun e w'=>e=.returned (.slice (some ⟨w.heap.size,0,none⟩) n n)∧Blk w' w.heap.size 2 (Qcs (List.replicate n 1152921504606846976))∧Below w.heap.size w w':=by
 have hmk:=Qfe n (by omega)
 go_enter func110,ntmps110
 go_wp2_with fail
 (refine Qai ?_;intro w1 hw1)
 have hb1:Below w.heap.size w w1:=by rw [hw1];exact Qag
 have hd1:Blk w1 w.heap.size 2 (Qcs (List.replicate 0 1152921504606846976 ++List.replicate (n-0) 0)):=by
  rw [hw1,Nat.sub_zero,List.replicate_zero,List.nil_append,←Qct];exact Blk.new _ _ _
 clear hw1
 go_loopw [4] (fun q W=>∃ i:Nat,q=.int .i64 i∧i≤n∧Below w.heap.size w W∧Blk W w.heap.size 2 (Qcs (List.replicate i 1152921504606846976 ++List.replicate (n-i) 0))) (fun q _=>n-(intOf q).toNat)
 case atStart=>exact ⟨0,rfl,Nat.zero_le _,hb1,hd1⟩
 case round =>
  clear hb1 hd1;obtain ⟨i,rfl,hin,hb,hd⟩:=hrel
  by_cases hlt:i<n
  · obtain ⟨v0,hv0⟩:∃ v0,(List.replicate i (1152921504606846976:Int) ++List.replicate (n-i) 0)[i]?=some v0:=⟨_,Zg (by simp;omega)⟩
    have c0:=hd.cellI hv0;have f0:=hd.frozen i;have HD:=Zh (hd.setI (Que n i hlt 1152921504606846976 0));have HB:=Zh (show Below w.heap.size w (wr.setCell ⟨w.heap.size,i,none⟩ (.int .i64 1152921504606846976)) from Zi hb (Zn _))
    have i1:(0:Int)≤(i:Int):=by omega
    have i2:(i:Int)<(n:Int):=by omega
    clear hb hd hv0
    go_wp2_with fail
    go_roundw
    case rel=>exact ⟨i+1,by go_num,by omega,HB.out,HD.out⟩
    case measure=>simp [intOf];omega
  · obtain rfl:n=i:=by omega
    rw [Yy,List.replicate_zero,List.append_nil] at hd;have i2:¬((n:Int)<(n:Int)):=by omega
    go_wp2_with fail
    go_ret
    exact ⟨rfl,hd,hb⟩
def Qdz (x y:Int):Int:=if x+y > 1152921504606846976 then 1152921504606846976 else x+y
theorem Qiy (x:Int)(w:World)(h0:0≤x)(h1:x≤1152921504606846976):Calls prog 129 #[.int .i64 x] w fun e w'=>e=.returned (.int .i64 x)∧w=w':=by
 have i1:¬(x<0):=by omega
 have i2:¬(x > 1152921504606846976):=by omega
 go_enter func129,ntmps129
 exact Kda
theorem Qrb (x:Int)(w:World)(h1:x > 1152921504606846976):Calls prog 129 #[.int .i64 x] w fun e w'=>e=.returned (.int .i64 1152921504606846976)∧w=w':=by
 have i1:¬(x<0):=by omega
 go_enter func129,ntmps129
 exact Kda
theorem Qgm (x y:Int)(w:World)(hx:0≤x∧x≤1152921504606846976)(hy:0≤y∧y≤1152921504606846976):Calls prog 74 #[.int .i64 x,.int .i64 y] w fun e w'=>e=.returned (.int .i64 (Qdz x y))∧w=w':=by
 have HX:=Zh (Qiy x w hx.1 hx.2);have HY:=Zh (Qiy y w hy.1 hy.2)
 have HZ:=Zh (show Calls prog 129 #[.int .i64 (x+y)] w fun e w'=>e=.returned (.int .i64 (Qdz x y))∧w=w' by
  unfold Qdz
  by_cases h:x+y > 1152921504606846976
  · rw [if_pos h];exact Qrb _ w h
  · rw [if_neg h];exact Qiy _ w (by omega) (by omega))
 have e1:IntKind.i64.wrap (x+y)=x+y:=IntWalk.i64_in _ (by omega);clear hx hy
 go_enter func74,ntmps74
 exact Kbr
end Go.Proofs.YtdheeddnkdhfeaaGreatDoor
