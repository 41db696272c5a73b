/- Parts of the proof: Pe, Sf, Acy. -/
import Derived.Test.YteaoiabikjnkeaaGreatDoorC1
import Derived.Test.YteaoiabikjnkeaaGreatDoorC3
import Derived.Test.YteaoiabikjnkeaaGreatDoorC11
import Derived.Test.YteaoiabikjnkeaaGreatDoorC18
import Derived.Test.YteaoiabikjnkeaaGreatDoorC28
namespace Go.Proofs.YteaoiabikjnkeaaGreatDoor
open Go.RowKit Go.Proofs.Tryz
attribute [local go_sem ↓] Go.wp_at_zero Go.wp_at_succ
theorem Qqr {n:Nat} {p:Option (List Int)} {l:List Int} (h:Qel n p l=0):Qer n l∧∀ q,p=some q→Qdo q l:=by
 unfold Qel at h
 split at h
 · cases h
 · split at h
   · assumption
   · cases h
set_option maxHeartbeats 2000000 in
set_option maxRecDepth 20000 in
theorem Qlv (Q:Option Addr)(n L cq:Nat) (ls:List (List Int)) (w:World) (h:RdT w Q L ls) :
 Calls prog 113 #[.int .i64 n,.agg #[.slice Q L cq],.slice none 0 0] w fun e w'=>Qbt (Qay n ls) e∧Below w.heap.size w w':=by
 have HT:=Zh h;clear h
 by_cases q0:(n:Int) > 4096
 · go_enter func113,ntmps113
   go_wp2_with fail
   (refine Qad ?_;intro w5 hw5)
   have hB5:Blk w5 (w.heap.size+1) 48 #[.slice none 0 0,.int .i64 0]:=by rw [hw5];exact Qbf
   have hb5:Below w.heap.size w w5:=by rw [hw5];exact Qah
   clear hw5;with_reducible refine (Qax _ _ _ _).mono ?_
   rintro e w2 ⟨⟨A4,n4,m4,rfl,hg4⟩,hb⟩;have hB2:=Blk.below hB5 hb hB5.lt;obtain ⟨c0,c1,f0,f1⟩:=hB2.two;have hb2:Below w.heap.size w w2:=Zb hb5 hb
   go_wp2_with fail
   refine bodyPost_ret (v:=.agg #[.slice A4 n4 m4,.int .i64 4]) (by simp [results,results113,go_sem,c0,c1]) rfl ?_
   first | exact ⟨Qbt.no (by decide),Qah⟩ | exact ⟨Qcr.no (Wg.mono (B:=w5.heap.size) (Wg.setCell (Wg.setCell hg4 hB5.lt _) hB5.lt _) hb5.size) (by decide),Qah⟩
 by_cases q1:(L:Int) > 6
 · go_enter func113,ntmps113
   go_wp2_with fail
   (refine Qad ?_;intro w5 hw5)
   have hB5:Blk w5 (w.heap.size+1) 48 #[.slice none 0 0,.int .i64 0]:=by rw [hw5];exact Qbf
   have hb5:Below w.heap.size w w5:=by rw [hw5];exact Qah
   clear hw5;with_reducible refine (Qax _ _ _ _).mono ?_
   rintro e w2 ⟨⟨A4,n4,m4,rfl,hg4⟩,hb⟩;have hB2:=Blk.below hB5 hb hB5.lt;obtain ⟨c0,c1,f0,f1⟩:=hB2.two;have hb2:Below w.heap.size w w2:=Zb hb5 hb
   go_wp2_with fail
   refine bodyPost_ret (v:=.agg #[.slice A4 n4 m4,.int .i64 4]) (by simp [results,results113,go_sem,c0,c1]) rfl ?_
   first | exact ⟨Qbt.no (by decide),Qah⟩ | exact ⟨Qcr.no (Wg.mono (B:=w5.heap.size) (Wg.setCell (Wg.setCell hg4 hB5.lt _) hB5.lt _) hb5.size) (by decide),Qah⟩
 by_cases q2:L=0
 · have j1:((L:Int) == 0)=true:=by simp;exact q2
   go_enter func113,ntmps113
   go_wp2_with fail
   (refine Qad ?_;intro w5 hw5)
   have hB5:Blk w5 (w.heap.size+1) 48 #[.slice none 0 0,.int .i64 0]:=by rw [hw5];exact Qbf
   have hb5:Below w.heap.size w w5:=by rw [hw5];exact Qah
   clear hw5;with_reducible refine (Qax _ _ _ _).mono ?_
   rintro e w2 ⟨⟨A4,n4,m4,rfl,hg4⟩,hb⟩;have hB2:=Blk.below hB5 hb hB5.lt;obtain ⟨c0,c1,f0,f1⟩:=hB2.two;have hb2:Below w.heap.size w w2:=Zb hb5 hb
   go_wp2_with fail
   refine bodyPost_ret (v:=.agg #[.slice A4 n4 m4,.int .i64 1]) (by simp [results,results113,go_sem,c0,c1]) rfl ?_
   first | exact ⟨Qbt.no (by decide),Qah⟩ | exact ⟨Qcr.no (Wg.mono (B:=w5.heap.size) (Wg.setCell (Wg.setCell hg4 hB5.lt _) hB5.lt _) hb5.size) (by decide),Qah⟩
 have j1:((L:Int) == 0)=false:=by simp;exact q2
 go_enter func113,ntmps113
 go_wp2_with fail
 (refine Qaj ?_;intro w1 hw1)
 have hb1:Below w.heap.size w w1:=by rw [hw1];exact Qah
 have hQ:Blk w1 w.heap.size 29 #[.slice Q L cq]:=by rw [hw1];exact Qbf
 have hB:Blk w1 (w.heap.size+1) 48 #[.slice none 0 0,.int .i64 0]:=by rw [hw1];exact Qbf
 clear hw1
 go_loopw [7] (fun q W=>Below w.heap.size w W∧Blk W w.heap.size 29 #[.slice Q L cq]∧Blk W (w.heap.size+1) 48 #[.slice none 0 0,.int .i64 0]∧∃ i:Nat,i≤L∧q=.int .i64 ((i:Int)+1)∧∀ (j:Nat) (l:List Int),j<i→ls[j]?=some l→Qer n l∧∀ q,Qfk ls j=some q→Qdo q l) (fun q _=>L+1-(intOf q).toNat)
 case atStart=>exact ⟨hb1,hQ,hB,0,Nat.zero_le _,rfl,fun _ _ h=>absurd h (Nat.not_lt_zero _)⟩
 case round =>
  clear hb1 hQ hB;obtain ⟨hbl,hQ,hB,i,hi,rfl,hall⟩:=hrel;have HA:=Zh hall;clear hall;have y0:=hQ.cell 0;simp only [List.getElem?_toArray,List.getElem?_cons_zero] at y0
  by_cases hlt:i<L
  · obtain ⟨l,hl⟩:∃ l,ls[i]?=some l:=⟨_,Zg (by rw [HT.out.1];exact hlt)⟩
    have HCL:=Zh (Qkl Q n L cq i ls l wr (HT.out.below hbl) hl (by omega) (by omega) (fun j p e hp=>(HA.out j p (by omega) hp).1.len));have HLL:=Zh hl;have HI:=Zh (@Qqr n (Qfk ls i) l);have i1:(i:Int)+1≤(L:Int):=by omega
    clear hl;generalize Qel n (Qfk ls i) l=code at *
    go_wp2_with fail
    with_reducible refine HCL.out.mono ?_
    rintro e w2 ⟨rfl,hb2⟩;have hQ2:=hQ.below hb2 hQ.lt;have hB2:=hB.below hb2 hB.lt;have hbw2:=Zb hbl hb2;clear hQ hB y0 HCL hb2
    by_cases hc:code=0
    · subst hc
      have HO:=Zh (HI.out rfl);clear HI
      go_wp2_with fail
      go_roundw
      case rel=>exact ⟨hbw2,hQ2,hB2,i+1,by omega,by go_num,fun j l' hj hl'=>by
       by_cases e:j=i
       · subst e
         rw [HLL.out] at hl'
         cases hl'
         exact HO.out
       · exact HA.out j l' (by omega) hl'⟩
      case measure=>simp [intOf];omega
    · have e1:(code == 0)=false:=by simpa using hc
      have e2:(code != 0)=true:=by simpa using hc
      have HC:=Zh hc;clear hc
      go_wp2_with fail
      with_reducible refine (Qax _ _ _ _).mono ?_
      rintro e w3 ⟨⟨A4,n4,m4,rfl,hg4⟩,hb3⟩;have hB3:=hB2.below hb3 hB2.lt;obtain ⟨c0,c1,f0,f1⟩:=hB3.two;have hbw3:=Zb hbw2 hb3
      go_wp2_with fail
      refine bodyPost_ret (v:=.agg #[.slice A4 n4 m4,.int .i64 code]) (by simp [results,results113,go_sem,c0,c1]) rfl ?_;exact ⟨Qbt.no HC.out,Qah⟩
  · obtain rfl:L=i:=by omega
    obtain ⟨c0,c1,f0,f1⟩:=hB.two;have zB:=hB.lt
    have HP:=Zh (show Qay n ls from ⟨by rw [HT.out.1];omega,by rw [HT.out.1];omega,fun l hl=>by
     obtain ⟨j,hj⟩:=List.getElem?_of_mem hl;exact (HA.out j l (by rw [←HT.out.1];exact (Zs hj).1) hj).1,fun j p l hp hl=>(HA.out (j+1) l (by rw [←HT.out.1];exact (Zs hl).1) hl).2 p (by rw [Qgp];exact hp)⟩)
    clear HA
    go_wp2_with fail
    refine bodyPost_ret (v:=.agg #[.slice none 0 0,.int .i64 0]) (by simp [results,results113,go_sem,c0,c1]) rfl ?_;exact ⟨⟨_,_,_,_,rfl,.inl ⟨rfl,HP.out⟩⟩,Qah⟩
structure FewP (ls:List (List Int)):Prop where
 l:ls.length≤10
 r:∀ l∈ls,l.length≤60
set_option maxHeartbeats 1000000 in
theorem fewP_any (Q:Option Addr)(L cq:Nat) (ls:List (List Int)) (w:World) (h:RdT w Q L ls) (hL:L≤9223372036854775807) :
 Calls prog 112 #[.agg #[.slice Q L cq]] w fun e w'=>Qhs (FewP ls) e∧Below w.heap.size w w':=by
 have HT:=Zh h;have HLE:=Zh h.1;clear h
 go_enter func112,ntmps112
 go_wp2_with fail
 (refine Qaj ?_;intro w1 hw1)
 have hb1:Below w.heap.size w w1:=by rw [hw1];exact Qah
 have hQ:Blk w1 w.heap.size 29 #[.slice Q L cq]:=by rw [hw1];exact Qbf
 have H1:=Zh (HT.out.below hb1);clear hw1;have y0:=hQ.cell 0;simp only [List.getElem?_toArray,List.getElem?_cons_zero] at y0
 go_loop [3] (fun q=>∃ i:Nat,i≤L∧q=.int .i64 i∧∀ j l,j<i→ls[j]?=some l→l.length≤60) (fun q=>L-(intOf q).toNat)
 case atStart=>exact ⟨0,Nat.zero_le _,rfl,fun _ _ h=>absurd h (Nat.not_lt_zero _)⟩
 case round =>
  obtain ⟨i,hi,rfl,hall⟩:=hrel;have HA:=Zh hall;clear hall
  by_cases hlt:i<L
  · obtain ⟨b,o,A,n,c,l,rfl,hl,hc,hr,q1,q2⟩:=H1.out.at_ hlt
    have i1:(0:Int)≤(i:Int):=by omega
    have i2:(i:Int)<(L:Int):=by omega
    have HLL:=Zh hl;have HR:=Zh hr.1;clear hl hr
    by_cases q3:(n:Int) > 60
    · go_wp2_with fail
      go_ret
      exact ⟨⟨false,rfl,fun h=>by cases h⟩,hb1⟩
    · go_wp2_with fail
      go_round
      case rel=>exact ⟨i+1,by omega,by go_num,fun j l' hj hl'=>by
       by_cases e:j=i
       · subst e
         rw [HLL.out] at hl'
         cases hl'
         rw [HR.out];omega
       · exact HA.out j l' (by omega) hl'⟩
      case measure=>simp [intOf];omega
  · obtain rfl:L=i:=by omega
    go_wp2_with fail
    go_ret
    refine ⟨⟨_,rfl,fun h=>⟨by rw [HLE.out];have:=of_decide_eq_true h;omega,fun l hl=>?_⟩⟩,hb1⟩;obtain ⟨j,hj⟩:=List.getElem?_of_mem hl;exact HA.out j l (by rw [←HLE.out];exact (Zs hj).1) hj
set_option maxHeartbeats 1000000 in
theorem Qwu (Q:Option Addr)(n L cq:Nat) (ls:List (List Int)) (w:World) (h:RdT w Q L ls) (hL:L≤9223372036854775807) :
 Calls prog 58 #[.int .i64 n,.agg #[.slice Q L cq]] w fun e w'=>Qhs (FewP ls∧n≤60∧Qay n ls) e∧Below w.heap.size w w':=by
 have HT:=Zh h;clear h
 go_enter func58,ntmps58
 go_wp2_with fail
 (refine Qad ?_;intro w1 hw1)
 have hb1:Below w.heap.size w w1:=by rw [hw1];exact Qah
 have hQ:Blk w1 w.heap.size 29 #[.slice Q L cq]:=by rw [hw1];exact Qbf
 clear hw1;with_reducible refine (fewP_any Q L cq ls w1 (HT.out.below hb1) hL).mono ?_
 rintro e w2 ⟨⟨bb,rfl,hf⟩,hb2⟩;have hbw2:=Zb hb1 hb2;have y0:=(hQ.below hb2 hQ.lt).cell 0;simp only [List.getElem?_toArray,List.getElem?_cons_zero] at y0;clear hQ hb2
 cases bb
 · go_wp2_with fail
   go_ret
   exact ⟨⟨false,rfl,fun h=>by cases h⟩,hbw2⟩
 have HF:=Zh (hf rfl);clear hf
 by_cases q0:(n:Int)≤60
 rotate_left
 · go_wp2_with fail
   go_ret
   exact ⟨⟨false,rfl,fun h=>by cases h⟩,hbw2⟩
 go_wp2_with fail
 with_reducible refine (Qlv Q n L cq ls w2 (HT.out.below hbw2)).mono ?_
 rintro e w3 ⟨⟨A4,k4,c4,x,rfl,hx⟩,hb3⟩;have hbw3:=Zb hbw2 hb3;have hfe:=Qsj A4 k4 c4 x w3;clear y0
 rcases hx with ⟨rfl,hG⟩|hx
 · have HG:=Zh hG
   clear hG
   go_wp2_with fail
   go_ret
   exact ⟨⟨true,rfl,fun _=>⟨HF.out,by omega,HG.out⟩⟩,hbw3⟩
 · go_wp2_with fail
   go_ret
   exact ⟨⟨_,rfl,fun h=>absurd (by simpa using h) hx⟩,hbw3⟩
structure MayOk (N:Qaq) (ls:List (List Int)):Prop where
 small:Qvg N
 few:FewP ls
 part:Qay N.vs.length ls
set_option maxHeartbeats 1000000 in
theorem Qvs (A B C Q:Option Addr)(n m k c d e L cq:Nat)(N:Qaq) (ls:List (List Int)) (w:World) (h:Qca w A B C n m k N) (hk:k≤9223372036854775807) (hq:RdT w Q L ls) (hL:L≤9223372036854775807) :
 Calls prog 16 #[.agg #[.slice A n c,.slice B m d,.slice C k e],.agg #[.slice Q L cq]] w fun e w'=>Qhs (MayOk N ls) e∧Below w.heap.size w w':=by
 have HH:=Zh h;have HT:=Zh hq;have HLV:=Zh h.1.1;clear h hq
 go_enter func16,ntmps16
 go_wp2_with fail
 (refine Qad ?_;intro w1 hw1)
 have hb1:Below w.heap.size w w1:=by rw [hw1];exact Qah
 have hN:Blk w1 w.heap.size 26 #[.slice A n c,.slice B m d,.slice C k e]:=by rw [hw1];exact Qbf
 have hQ:Blk w1 (w.heap.size+1) 29 #[.slice Q L cq]:=by rw [hw1];exact Qbf
 clear hw1;with_reducible refine (Qxl A B C n m k c d e N w1 (HH.out.below hb1) hk).mono ?_
 rintro r w2 ⟨⟨bb,rfl,hf⟩,hb2⟩;have hbw2:=Zb hb1 hb2;have y0:=(hQ.below hb2 hQ.lt).cell 0;simp only [List.getElem?_toArray,List.getElem?_cons_zero] at y0;obtain ⟨n0,n1,n2⟩:=(hN.below hb2 hN.lt).three;clear hQ hb2 hN
 cases bb
 · go_wp2_with fail
   go_ret
   exact ⟨⟨false,rfl,fun h=>by cases h⟩,hbw2⟩
 have HF:=Zh (hf rfl);clear hf
 go_wp2_with fail
 with_reducible refine (Qwu Q n L cq ls w2 (HT.out.below hbw2) hL).mono ?_
 rintro r w3 ⟨⟨bb,rfl,hf⟩,hb3⟩;have HF2:=Zh hf;have hbw3:=Zb hbw2 hb3;clear hf
 go_wp2_with fail
 go_ret
 exact ⟨⟨bb,rfl,fun h=>⟨HF.out,(HF2.out h).1,by rw [HLV.out];exact (HF2.out h).2.2⟩⟩,hbw3⟩
theorem sumA_few {N:Qaq} {ls:List (List Int)} (h:MayOk N ls):Qbv (Qae N.ar ls)≤1000000000:=by
 have hA:=h.small.a;have hv:=h.small.v;have h6:=h.part.l6
 have hx:∀ x∈(Qae N.ar ls).map Qdn,x≤194400:=fun z hz=>by
  obtain ⟨row,hr,rfl⟩:=List.mem_map.1 hz;obtain ⟨l,hl,rfl⟩:=List.mem_map.1 hr
  have hm:∀ y∈(Qaf N.ar l).map szG,y≤8100:=fun y hy=>by
   obtain ⟨x,hx,rfl⟩:=List.mem_map.1 hy;obtain ⟨c,hc⟩:=List.getElem?_of_mem hx;have g:=Qbl hc;unfold szG;have:=Nat.mul_le_mul (show x.1.length≤90 by omega) (show x.2.length≤90 by omega)
   omega
  have h1:=Qso hm;have h2:=h.part.lvl l hl;have h3:=Qbx (l:=l) (n:=(N.vs.length:Int)) (fun x hx=>h2.hi x hx) (by omega);rw [List.length_map,Qat] at h1;have h4:(Qas l).toNat*8100≤24*8100:=Nat.mul_le_mul_right _ (by omega);unfold Qdn;omega
 have h1:=Qso hx;rw [List.length_map,show (Qae N.ar ls).length=ls.length by simp [Qae]] at h1
 have h4:ls.length*194400≤6*194400:=Nat.mul_le_mul_right _ (by omega);unfold Qbv;omega
end Go.Proofs.YteaoiabikjnkeaaGreatDoor
namespace Go.Proofs.YteaoiabikjnkeaaGreatDoor
open Go.RowKit Go.Extern.Stop Go.Stop Go.Extern Go.Proofs.Tryz
attribute [local go_sem ↓] Go.wp_at_zero Go.wp_at_succ
/-! Cells that may be always: one of all, one of each vertex. -/
def Quo (n:Nat):List Int:=List.replicate n 0
def Qsa (n:Nat):List Int:=(List.range n).map (fun v:Nat=>(v:Int))
theorem ownL_get {n i:Nat}(h:i<n):(Qsa n)[i]?=some (i:Int):=by unfold Qsa;rw [List.getElem?_map,List.getElem?_range h];rfl
theorem Qxi (n:Nat):Qsa (n+1)=Qsa n ++[(n:Int)]:=by unfold Qsa;rw [List.range_succ,List.map_append];rfl
theorem Qxt {n:Nat}(h:0<n):Qer n (Quo n):=by
 have h0:∀ x∈Quo n,x=0:=fun x hx=>(List.mem_replicate.1 hx).2
 refine ⟨List.length_replicate ..,fun x hx=>by rw [h0 x hx];omega,fun x hx=>by rw [h0 x hx];omega,fun c hc=>?_⟩;have hm:Qas (Quo n)≤1:=Qbx (fun x hx=>by rw [h0 x hx];omega) (by omega);obtain rfl:c=0:=by omega
 exact List.mem_replicate.2 ⟨by omega,rfl⟩
theorem ownL_ok {n:Nat}:Qer n (Qsa n):=by
 have h0:∀ x∈Qsa n,∃ v:Nat,x=(v:Int)∧v<n:=fun x hx=>by
  obtain ⟨v,hv,rfl⟩:=List.mem_map.1 hx;exact ⟨v,rfl,List.mem_range.1 hv⟩
 refine ⟨by unfold Qsa;rw [List.length_map,List.length_range],fun x hx=>by obtain ⟨v,rfl,_⟩:=h0 x hx;omega,fun x hx=>by obtain ⟨v,rfl,hv⟩:=h0 x hx;omega,fun c hc=>?_⟩;have hm:Qas (Qsa n)≤n:=Qbx (fun x hx=>by obtain ⟨v,rfl,hv⟩:=h0 x hx;omega) (by omega);exact Zm (ownL_get (n:=n) (i:=c) (by omega))
theorem Qtr {n:Nat}(h:0<n):Qay n [Quo n]:=by
 refine ⟨by simp,by simp,fun l hl=>by rw [List.mem_singleton.1 hl];exact Qxt h,fun i p l hp hl=>?_⟩;have:=(Zs hl).1;simp at this
theorem Qub {n:Nat}(h:0<n):Qay n [Qsa n,Quo n]:=by
 refine ⟨by simp,by simp,fun l hl=>?_,fun i p l hp hl=>?_⟩
 · simp only [List.mem_cons,List.not_mem_nil,or_false] at hl
   rcases hl with rfl|rfl
   · exact ownL_ok
   · exact Qxt h
 · have hi:=(Zs hl).1
   simp only [List.length_cons,List.length_nil] at hi;obtain rfl:i=0:=by omega
   cases hl
   intro a b x y u v _ _ hu hv _;have h0:∀ {k:Nat} {z:Int},(Quo n)[k]?=some z→z=0:=fun hz=>(List.mem_replicate.1 (Zm hz)).2
   rw [h0 hu,h0 hv];omega
theorem Qqx {P:Program}{ops:Array Oper}{Q:Exit→Act→World→Prop}{md:Region.Mode}{S:World→Prop}{G:Value→Value→Value→Value→Value→Value→World→Prop}{L listed:Array Bool}{f0 fuel:Nat}{a:Act}{w:World}(d1 d2 d3 d4 d5 d6:Option Tmp)(hf:fuel=f0+6)
 (hA:∀ C:Act→World→Prop,Shut (∀ v1 v2 v3 v4 v5 v6 w',G v1 v2 v3 v4 v5 v6 w'→C ((((((a.put d1 v1).put d2 v2).put d3 v3).put d4 v4).put d5 v5).put d6 v6) w')→wpC P md ops Q S L C 6 listed a w)
 (hB:∀ v1 v2 v3 v4 v5 v6 w',G v1 v2 v3 v4 v5 v6 w'→wpAnyH P md ops Q S f0 L ((((((a.put d1 v1).put d2 v2).put d3 v3).put d4 v4).put d5 v5).put d6 v6) w'):wpAnyH P md ops Q S fuel listed a w:=by
 subst hf;exact Qps (C:=fun a' w'=>wpAnyH P md ops Q S f0 L a' w') (fun _ _ h=>h) 6 listed a w (hA _ hB)
def CcG (w0:World)(n:Nat)(A9:Option Addr)(c9:Nat)(v1 v2 v3 v4 v5 v6:Value)(w':World):Prop :=
 ∃ g1 g2 g3 g4:Nat,v1=.slice (some ⟨g1,0,none⟩) n n∧v2=.slice (some ⟨g2,0,none⟩) 1 1∧v3=.agg #[.slice (some ⟨g2,0,none⟩) 1 1]∧v4=.slice (some ⟨g3,0,none⟩) n n∧v5=.slice (some ⟨g4,0,none⟩) 2 2∧v6=.agg #[.slice (some ⟨g4,0,none⟩) 2 2] ∧
  Blk w' g1 3 (Qbg (.int .i64 0) n)∧Blk w' g2 67 #[.slice (some ⟨g1,0,none⟩) n n]∧Blk w' g3 3 (Qbg (.int .i64 0) n)∧Blk w' g4 67 #[.slice A9 n c9,.slice (some ⟨g3,0,none⟩) n n]∧Below w0.heap.size w0 w'∧w0.heap.size≤g1∧w0.heap.size≤g2∧w0.heap.size≤g3∧w0.heap.size≤g4
theorem Qro {w:World}{g n:Nat} (h:Blk w g 3 (Qbg (.int .i64 0) n)):RdI w (some ⟨g,0,none⟩) n (Quo n):=by
 have h1:Rds w 1 (some ⟨g,0,none⟩) n (Qag (Quo n)):=by
  have:=h.rds (m:=n) (s:=1) (by simp [Qbg]);have e:(Qbg (Value.int .i64 0) n).toList=Qag (Quo n):=by simp [Qbg,Qag,Quo]
  rwa [e] at this
 exact h1.rdI
set_option maxRecDepth 20000 in
set_option maxHeartbeats 60000000 in
theorem Qml (A B C Q:Option Addr)(n m k c d e L cq:Nat)(N:Qaq) (ls:List (List Int)) (a b:Int) (w:World) (h:Qca w A B C n m k N) (hk:k≤9223372036854775807) (hq:RdT w Q L ls) (hL:L≤9223372036854775807) (ha:0≤a∧a≤65535) (hb:0≤b∧b≤65535) (hg:w.cell? ⟨0,0,none⟩=some Qmt) :
 Calls prog 5 #[.agg #[.slice A n c,.slice B m d,.slice C k e],.agg #[.slice Q L cq],.int .u16 a,.int .u16 b] w fun r w'=>r=.returned (.bool true)∧Below w.heap.size w w':=by
 obtain ⟨an,rfl⟩:∃ an:Nat,a=(an:Int):=⟨a.toNat,by omega⟩;obtain ⟨bn,rfl⟩:∃ bn:Nat,b=(bn:Int):=⟨b.toNat,by omega⟩;have HH:=Zh h;have HT:=Zh hq;have HG:=Zh hg;have HNA:=Zh (show N.ar.length=m from h.2.1.1)
 have HNV:=Zh (show N.vs.length=n from h.1.1)
 clear h hq hg
 go_enter func5,ntmps5
 go_wp2_with fail
 (refine Qad ?_;intro w1 hw1)
 have hb1:Below w.heap.size w w1:=by rw [hw1];exact Qah
 have hX:Blk w1 w.heap.size 26 #[.slice A n c,.slice B m d,.slice C k e]:=by rw [hw1];exact Qbf
 have hY:Blk w1 (w.heap.size+1) 29 #[.slice Q L cq]:=by rw [hw1];exact Qbf
 clear hw1;with_reducible refine (Qtv w1 (Zc hb1 (Zn _) HG.out)).mono ?_
 rintro r w2 ⟨rfl,hb2⟩;have hq2:=hb2;have hX2:=hX.below hb2 hX.lt;have hY2:=hY.below hb2 hY.lt;have hb2':=Zb hb1 hb2;clear hX hY hb1 hb2;obtain ⟨x0,x1,x2⟩:=hX2.three;have y0:=hY2.cell 0;simp only [List.getElem?_toArray,List.getElem?_cons_zero] at y0
 go_wp2_with fail
 with_reducible refine (Qvs A B C Q n m k c d e L cq N ls w2 (HH.out.below hb2') hk (HT.out.below hb2') hL).mono ?_
 rintro r w3 ⟨hr,hb3⟩;have hb3':=Zb hb2' hb3;have hq3:=Zb hq2 hb3;have hX3:=hX2.below hb3 hX2.lt;have hY3:=hY2.below hb3 hY2.lt;clear x0 x1 x2 y0 hX2 hY2 hb2' hb3 hq2;obtain ⟨bz,rfl,hGG⟩:=hr
 cases bz with
 | false =>
  clear hGG
  go_wp2_with fail
  go_ret
  exact ⟨rfl,hb3'⟩
 | true =>
 have hmay:=hGG rfl;clear hGG;have HMAY:=Zh hmay;have hok:=hmay.small.ok;clear hmay;obtain ⟨x0,x1,x2⟩:=hX3.three;have y0:=hY3.cell 0;simp only [List.getElem?_toArray,List.getElem?_cons_zero] at y0
 by_cases hm0:m=0
 · have e0:((m:Int) == 0)=true:=by simp [hm0]
   clear hm0
   go_wp2_with fail
   go_ret
   exact ⟨rfl,hb3'⟩
 have e0:((m:Int) == 0)=false:=by simp;exact hm0
 have HX3:=Zh hX3;have HY3:=Zh hY3;have HB3:=Zh hb3';have hn4:n≤4096:=by rw [←HNV.out];exact hok.lv
 have hm4:m≤16384:=by rw [←HNA.out];exact hok.la
 obtain ⟨s,hs⟩:∃ s,s=an % m:=⟨_,rfl⟩;obtain ⟨t,ht⟩:∃ t,t=bn % m:=⟨_,rfl⟩;have hsm:s<m:=by rw [hs];exact Nat.mod_lt _ (by omega)
 have htm:t<m:=by rw [ht];exact Nat.mod_lt _ (by omega)
 have m0:Int.tmod (an:Int) (m:Int)=(s:Int):=by rw [hs];exact (Int.ofNat_tmod an m).symm
 have m1:Int.tmod (bn:Int) (m:Int)=(t:Int):=by rw [ht];exact (Int.ofNat_tmod bn m).symm
 have m2:(an:Int) % (m:Int)=(s:Int):=by rw [hs];rfl
 have m3:(bn:Int) % (m:Int)=(t:Int):=by rw [ht];rfl
 have wr0:IntKind.i64.wrap (s:Int)=(s:Int):=IntWalk.i64_in _ (by omega);have wr1:IntKind.i64.wrap (t:Int)=(t:Int):=IntWalk.i64_in _ (by omega);have wu0:IntKind.i64.wrap (an:Int)=(an:Int):=IntWalk.i64_in _ (by omega);have wu1:IntKind.i64.wrap (bn:Int)=(bn:Int):=IntWalk.i64_in _ (by omega);have en0:¬m=0:=hm0;have en1:¬(m:Int)=0:=by omega
 clear hX3 hY3 hb3' x0 x2 y0 hs ht hq3;have HSX:=Zh (show ∀ V,Below w3.heap.size w3 V→V.cell? ⟨w.heap.size,1,none⟩=some (.slice B m d) from fun V hV=>by rw [(HX3.out.below hV HX3.out.lt).cell];rfl)
 go_wp2_with fail
 refine wp_region_held_drew (S:=fun V=>Below w3.heap.size w3 V) (by kernel_rfl) (Zr _ _).drew (fun _=>?_);refine tz 0 34 ?_;refine tz 1 35 ?_;refine tz 2 36 ?_;refine tz 3 37 ?_;refine tz 4 38 ?_;refine tz 5 39 ?_;refine tz 6 40 ?_;refine tz 7 41 ?_;refine tz 8 42 ?_;refine tz 9 43 ?_;refine tz 10 44 ?_;refine tz 11 45 ?_;refine tz 12 9 ?_;refine tz 13 10 ?_;refine Zd ?_;clear HSX m0 m1 m2 m3 wr0 wr1 wu0 wu1 en0 en1 x1;obtain ⟨w4,hw4⟩:∃ W,W=w3.drew:=⟨_,rfl⟩;rw [←hw4];have hb4:Below w3.heap.size w3 w4:=by rw [hw4];exact (Zr _ _).drew
 have HX4:=Zh (HX3.out.below hb4 HX3.out.lt);have HY4:=Zh (HY3.out.below hb4 HY3.out.lt);have HB4:=Zh (Zb HB3.out hb4);clear hw4 hb4 HX3 HY3 HB3
 go_wp2_with fail
 go_loopw [11,12] (fun z q W=>∃ (i:Nat) (A9:Option Addr) (c9:Nat),i≤n∧q=.int .i64 i∧z=.slice A9 i c9∧Own W w4.heap.size 3 1 A9 i c9 (Qag (Qsa i))∧Below w4.heap.size w4 W) (fun _ q _=>n-(intOf q).toNat)
 case atStart=>exact ⟨0,none,0,Nat.zero_le _,rfl,rfl,Own.nil _ _ _ _,Zr _ _⟩
 case round =>
  obtain ⟨i,A9,c9,hi,rfl,rfl,hown,hbl⟩:=hrel;have HO:=Zh hown;have HBL:=Zh hbl;have hXr:=HX4.out.below hbl HX4.out.lt;have x0:=hXr.three.1;clear hown hbl
  by_cases hlt:i<n
  · obtain ⟨W2,hW2⟩:∃ W2,W2=wr.alloc (.cells #[.int .i64 (i:Int)] 3):=⟨_,rfl⟩
    have hb2:Below wr.heap.size wr W2:=by rw [hW2];exact Qah
    have hrd:Rds W2 1 (some ⟨wr.heap.size,0,none⟩) 1 (Qag [(i:Int)]):=by rw [hW2];exact (Blk.new wr 3 #[.int .i64 (i:Int)]).rds rfl
    have hown:=HO.out.below hb2;have hsz:w4.heap.size≤W2.heap.size:=Nat.le_trans HBL.out.size hb2.size;have HW2:=Zh hW2;have HB2:=Zh (Zb HBL.out hb2);have i1:(i:Int)<(n:Int):=by omega
    clear hW2 hb2 hXr
    go_wp2_with (at_builtin;rw [←HW2.out];with_reducible refine Qap rfl (.tmp 53) (.tmp 55) 67 rfl 3 _ 1 8 Qbb underlying67 rfl (by omega) rfl rfl hown hrd (Qak _) (by omega) (by omega) hsz ?_)
    intro A3 c3 w8 ho8 hg8 _;have hb8:=Bel.grownOwn HB2.out hg8 hown hsz;have HO8:=Zh (show Own w8 w4.heap.size 3 1 A3 (i+1) c3 (Qag (Qsa (i+1))) by rw [Qxi,Qbr];exact ho8)
    have HB8:=Zh hb8;clear hown hrd hsz ho8 hg8 hb8 x0
    go_wp2_with fail
    go_roundw
    case rel=>exact ⟨i+1,A3,c3,by omega,by go_num,rfl,HO8.out,HB8.out⟩
    case measure=>simp [intOf];omega
  obtain rfl:n=i:=by omega
  have i1:¬(n:Int)<(n:Int):=by omega
  clear hlt hi hXr
  go_wp2_with fail
  (refine Qaj ?_;intro w5 hw5)
  have hb5:Below wr.heap.size wr w5:=by rw [hw5];exact Qah
  have HD5:=Zh (show Blk w5 wr.heap.size 68 #[.int .i64 0,.int .i64 0,.int .i64 0] by rw [hw5];exact Qbf)
  clear hw5;have hb45:=Zb HBL.out hb5;obtain ⟨gd,hgd⟩:∃ gd,gd=wr.heap.size:=⟨_,rfl⟩;rw [←hgd] at HD5 ⊢;have HOL:=Zh (show ∀ b,Qac A9=some b→b≠gd from fun b hb=>by have:=(HO.out.lt b hb).2;omega)
  have HGD:=Zh (show w.heap.size+1<gd from by have:=HBL.out.size;have:=HY4.out.lt;omega)
  clear hgd;have HX5:=Zh (HX4.out.below hb45 HX4.out.lt);have HY5:=Zh (HY4.out.below hb45 HY4.out.lt);have HB5:=Zh (Zb HB4.out hb45);have HO5:=Zh (HO.out.below hb5);have HW45:=Zh hb45.size;clear hb5 hb45 x0 HO HBL;have hmk:=Qcv n (by omega);have HSX:=Zh (show ∀ V,Below w5.heap.size w5 V→V.cell? ⟨w.heap.size,0,none⟩=some (.slice A n c)∧V.cell? ⟨w.heap.size+1,0,none⟩=some (.slice Q L cq) from fun V hV=>⟨by rw [(HX5.out.below hV HX5.out.lt).cell];rfl,by rw [(HY5.out.below hV HY5.out.lt).cell];rfl⟩)
  go_wp2_with fail
  refine wp_region_held_drew (S:=fun V=>Below w5.heap.size w5 V) (by kernel_rfl) (Zr _ _).drew (fun _=>?_);refine tz 0 57 ?_;refine tz 1 58 ?_;refine tz 2 59 ?_;refine tz 3 60 ?_;refine tz 7 64 ?_;refine tz 8 65 ?_;refine tz 9 66 ?_;refine tz 10 67 ?_;refine tz 16 73 ?_;have hB:Below w5.heap.size w5 w5.drew:=(Zr _ _).drew;obtain ⟨U0,hU0⟩:∃ U,U=w5.drew:=⟨_,rfl⟩;rw [←hU0] at hB ⊢;clear hU0;refine Qqx (G:=CcG w5 n A9 c9) (L:=#[true,true,true,true,true,true,true,true,true,true,true,true,true,true,false,false,true]) (f0:=2) (some 61) (some 62) (some 63) (some 68) (some 69) (some 70) rfl ?_ ?_
  · intro C0 hC
    refine Qai (rs:=[4,11]) (by kernel_rfl) (by simp) ?_;refine Qbc.cons (o:=_) rfl (fun K hK=>?_) (Qbc.cons (o:=_) rfl (fun K hK=>?_) (Qbc.nil))
    · go_simp
      obtain ⟨U1,qX⟩:∃ X,X=U0.alloc (.cells (Qbg (.int .i64 0) n) 3):=⟨_,rfl⟩;obtain ⟨g1,qG⟩:∃ G,G=U0.heap.size:=⟨_,rfl⟩;have e1:w5.heap.size≤g1:=by rw [qG];exact hB.size
      have hbn:Below U0.heap.size U0 U1:=by rw [qX];exact Qah
      have h1:Blk U1 g1 3 (Qbg (.int .i64 0) n):=by rw [qX,qG];exact Blk.new _ _ _
      have hB':=Zb hB hbn;rw [←qX,←qG];refine hK.out _ _ hB' (fun _=>?_);clear hK K qX qG hbn hB;have hB:=hB';clear hB'
      try simp only [pE,List.set]
      refine Qai (rs:=[5,11]) (by kernel_rfl) (by simp) ?_;refine Qbc.cons (o:=_) rfl (fun K hK=>?_) (Qbc.cons (o:=_) rfl (fun K hK=>?_) (Qbc.nil))
      · go_simp
        obtain ⟨U2,qX⟩:∃ X,X=U1.alloc (.cells #[.slice (some ⟨g1,0,none⟩) n n] 67):=⟨_,rfl⟩;obtain ⟨g2,qG⟩:∃ G,G=U1.heap.size:=⟨_,rfl⟩;have e2:w5.heap.size≤g2:=by rw [qG];exact hB.size
        have hbn:Below U1.heap.size U1 U2:=by rw [qX];exact Qah
        have h2:Blk U2 g2 67 #[.slice (some ⟨g1,0,none⟩) n n]:=by rw [qX,qG];exact Blk.new _ _ _
        have h1:=h1.below hbn h1.lt;have hB':=Zb hB hbn;rw [←qX,←qG];refine hK.out _ _ hB' (fun _=>?_);clear hK K qX qG hbn hB;have hB:=hB';clear hB'
        try simp only [pE,List.set]
        refine Qai (rs:=[6,11]) (by kernel_rfl) (by simp) ?_;refine Qbc.cons (o:=_) rfl (fun K hK=>?_) (Qbc.cons (o:=_) rfl (fun K hK=>?_) (Qbc.nil))
        · go_simp
          refine hK.out _ _ hB (fun _=>?_);clear hK K
          try simp only [pE,List.set]
          refine Qai (rs:=[11]) (by kernel_rfl) (by simp) ?_;refine Qbc.cons (o:=_) rfl (fun K hK=>?_) (Qbc.nil);go_simp;obtain ⟨U3,qX⟩:∃ X,X=U2.alloc (.cells (Qbg (.int .i64 0) n) 3):=⟨_,rfl⟩;obtain ⟨g3,qG⟩:∃ G,G=U2.heap.size:=⟨_,rfl⟩;have e3:w5.heap.size≤g3:=by rw [qG];exact hB.size
          have hbn:Below U2.heap.size U2 U3:=by rw [qX];exact Qah
          have h3:Blk U3 g3 3 (Qbg (.int .i64 0) n):=by rw [qX,qG];exact Blk.new _ _ _
          have h1:=h1.below hbn h1.lt;have h2:=h2.below hbn h2.lt;have hB':=Zb hB hbn;rw [←qX,←qG];refine hK.out _ _ hB' (fun _=>?_);clear hK K qX qG hbn hB;have hB:=hB';clear hB'
          try simp only [pE,List.set]
          refine Qai (rs:=[12]) (by kernel_rfl) (by simp) ?_;refine Qbc.cons (o:=_) rfl (fun K hK=>?_) (Qbc.nil);go_simp;obtain ⟨U4,qX⟩:∃ X,X=U3.alloc (.cells #[.slice A9 n c9,.slice (some ⟨g3,0,none⟩) n n] 67):=⟨_,rfl⟩;obtain ⟨g4,qG⟩:∃ G,G=U3.heap.size:=⟨_,rfl⟩;have e4:w5.heap.size≤g4:=by rw [qG];exact hB.size
          have hbn:Below U3.heap.size U3 U4:=by rw [qX];exact Qah
          have h4:Blk U4 g4 67 #[.slice A9 n c9,.slice (some ⟨g3,0,none⟩) n n]:=by rw [qX,qG];exact Blk.new _ _ _
          have h1:=h1.below hbn h1.lt;have h2:=h2.below hbn h2.lt;have h3:=h3.below hbn h3.lt;have hB':=Zb hB hbn;rw [←qX,←qG];refine hK.out _ _ hB' (fun _=>?_);clear hK K qX qG hbn hB;have hB:=hB';clear hB'
          try simp only [pE,List.set]
          refine Qai (rs:=[13]) (by kernel_rfl) (by simp) ?_;refine Qbc.cons (o:=_) rfl (fun K hK=>?_) (Qbc.nil);go_simp;refine hK.out _ _ hB (fun _=>?_);clear hK K
          try simp only [pE,List.set]
          exact ⟨by kernel_rfl,hC.out _ _ _ _ _ _ _ ⟨g1,g2,g3,g4,rfl,rfl,rfl,rfl,rfl,rfl,h1,h2,h3,h4,hB,e1,e2,e3,e4⟩⟩
        · go_simp
          obtain ⟨U3,qX⟩:∃ X,X=U2.alloc (.cells (Qbg (.int .i64 0) n) 3):=⟨_,rfl⟩;obtain ⟨g3,qG⟩:∃ G,G=U2.heap.size:=⟨_,rfl⟩;have e3:w5.heap.size≤g3:=by rw [qG];exact hB.size
          have hbn:Below U2.heap.size U2 U3:=by rw [qX];exact Qah
          have h3:Blk U3 g3 3 (Qbg (.int .i64 0) n):=by rw [qX,qG];exact Blk.new _ _ _
          have h1:=h1.below hbn h1.lt;have h2:=h2.below hbn h2.lt;have hB':=Zb hB hbn;rw [←qX,←qG];refine hK.out _ _ hB' (fun _=>?_);clear hK K qX qG hbn hB;have hB:=hB';clear hB'
          try simp only [pE,List.set]
          refine Qai (rs:=[6,12]) (by kernel_rfl) (by simp) ?_;refine Qbc.cons (o:=_) rfl (fun K hK=>?_) (Qbc.cons (o:=_) rfl (fun K hK=>?_) (Qbc.nil))
          · go_simp
            refine hK.out _ _ hB (fun _=>?_);clear hK K
            try simp only [pE,List.set]
            refine Qai (rs:=[12]) (by kernel_rfl) (by simp) ?_;refine Qbc.cons (o:=_) rfl (fun K hK=>?_) (Qbc.nil);go_simp;obtain ⟨U4,qX⟩:∃ X,X=U3.alloc (.cells #[.slice A9 n c9,.slice (some ⟨g3,0,none⟩) n n] 67):=⟨_,rfl⟩;obtain ⟨g4,qG⟩:∃ G,G=U3.heap.size:=⟨_,rfl⟩;have e4:w5.heap.size≤g4:=by rw [qG];exact hB.size
            have hbn:Below U3.heap.size U3 U4:=by rw [qX];exact Qah
            have h4:Blk U4 g4 67 #[.slice A9 n c9,.slice (some ⟨g3,0,none⟩) n n]:=by rw [qX,qG];exact Blk.new _ _ _
            have h1:=h1.below hbn h1.lt;have h2:=h2.below hbn h2.lt;have h3:=h3.below hbn h3.lt;have hB':=Zb hB hbn;rw [←qX,←qG];refine hK.out _ _ hB' (fun _=>?_);clear hK K qX qG hbn hB;have hB:=hB';clear hB'
            try simp only [pE,List.set]
            refine Qai (rs:=[13]) (by kernel_rfl) (by simp) ?_;refine Qbc.cons (o:=_) rfl (fun K hK=>?_) (Qbc.nil);go_simp;refine hK.out _ _ hB (fun _=>?_);clear hK K
            try simp only [pE,List.set]
            exact ⟨by kernel_rfl,hC.out _ _ _ _ _ _ _ ⟨g1,g2,g3,g4,rfl,rfl,rfl,rfl,rfl,rfl,h1,h2,h3,h4,hB,e1,e2,e3,e4⟩⟩
          · go_simp
            obtain ⟨U4,qX⟩:∃ X,X=U3.alloc (.cells #[.slice A9 n c9,.slice (some ⟨g3,0,none⟩) n n] 67):=⟨_,rfl⟩;obtain ⟨g4,qG⟩:∃ G,G=U3.heap.size:=⟨_,rfl⟩;have e4:w5.heap.size≤g4:=by rw [qG];exact hB.size
            have hbn:Below U3.heap.size U3 U4:=by rw [qX];exact Qah
            have h4:Blk U4 g4 67 #[.slice A9 n c9,.slice (some ⟨g3,0,none⟩) n n]:=by rw [qX,qG];exact Blk.new _ _ _
            have h1:=h1.below hbn h1.lt;have h2:=h2.below hbn h2.lt;have h3:=h3.below hbn h3.lt;have hB':=Zb hB hbn;rw [←qX,←qG];refine hK.out _ _ hB' (fun _=>?_);clear hK K qX qG hbn hB;have hB:=hB';clear hB'
            try simp only [pE,List.set]
            refine Qai (rs:=[6,13]) (by kernel_rfl) (by simp) ?_;refine Qbc.cons (o:=_) rfl (fun K hK=>?_) (Qbc.cons (o:=_) rfl (fun K hK=>?_) (Qbc.nil))
            · go_simp
              refine hK.out _ _ hB (fun _=>?_);clear hK K
              try simp only [pE,List.set]
              refine Qai (rs:=[13]) (by kernel_rfl) (by simp) ?_;refine Qbc.cons (o:=_) rfl (fun K hK=>?_) (Qbc.nil);go_simp;refine hK.out _ _ hB (fun _=>?_);clear hK K
              try simp only [pE,List.set]
              exact ⟨by kernel_rfl,hC.out _ _ _ _ _ _ _ ⟨g1,g2,g3,g4,rfl,rfl,rfl,rfl,rfl,rfl,h1,h2,h3,h4,hB,e1,e2,e3,e4⟩⟩
            · go_simp
              refine hK.out _ _ hB (fun _=>?_);clear hK K
              try simp only [pE,List.set]
              refine Qai (rs:=[6]) (by kernel_rfl) (by simp) ?_;refine Qbc.cons (o:=_) rfl (fun K hK=>?_) (Qbc.nil);go_simp;refine hK.out _ _ hB (fun _=>?_);clear hK K
              try simp only [pE,List.set]
              exact ⟨by kernel_rfl,hC.out _ _ _ _ _ _ _ ⟨g1,g2,g3,g4,rfl,rfl,rfl,rfl,rfl,rfl,h1,h2,h3,h4,hB,e1,e2,e3,e4⟩⟩
      · go_simp
        obtain ⟨U2,qX⟩:∃ X,X=U1.alloc (.cells (Qbg (.int .i64 0) n) 3):=⟨_,rfl⟩;obtain ⟨g3,qG⟩:∃ G,G=U1.heap.size:=⟨_,rfl⟩;have e3:w5.heap.size≤g3:=by rw [qG];exact hB.size
        have hbn:Below U1.heap.size U1 U2:=by rw [qX];exact Qah
        have h3:Blk U2 g3 3 (Qbg (.int .i64 0) n):=by rw [qX,qG];exact Blk.new _ _ _
        have h1:=h1.below hbn h1.lt;have hB':=Zb hB hbn;rw [←qX,←qG];refine hK.out _ _ hB' (fun _=>?_);clear hK K qX qG hbn hB;have hB:=hB';clear hB'
        try simp only [pE,List.set]
        refine Qai (rs:=[5,12]) (by kernel_rfl) (by simp) ?_;refine Qbc.cons (o:=_) rfl (fun K hK=>?_) (Qbc.cons (o:=_) rfl (fun K hK=>?_) (Qbc.nil))
        · go_simp
          obtain ⟨U3,qX⟩:∃ X,X=U2.alloc (.cells #[.slice (some ⟨g1,0,none⟩) n n] 67):=⟨_,rfl⟩;obtain ⟨g2,qG⟩:∃ G,G=U2.heap.size:=⟨_,rfl⟩;have e2:w5.heap.size≤g2:=by rw [qG];exact hB.size
          have hbn:Below U2.heap.size U2 U3:=by rw [qX];exact Qah
          have h2:Blk U3 g2 67 #[.slice (some ⟨g1,0,none⟩) n n]:=by rw [qX,qG];exact Blk.new _ _ _
          have h1:=h1.below hbn h1.lt;have h3:=h3.below hbn h3.lt;have hB':=Zb hB hbn;rw [←qX,←qG];refine hK.out _ _ hB' (fun _=>?_);clear hK K qX qG hbn hB;have hB:=hB';clear hB'
          try simp only [pE,List.set]
          refine Qai (rs:=[6,12]) (by kernel_rfl) (by simp) ?_;refine Qbc.cons (o:=_) rfl (fun K hK=>?_) (Qbc.cons (o:=_) rfl (fun K hK=>?_) (Qbc.nil))
          · go_simp
            refine hK.out _ _ hB (fun _=>?_);clear hK K
            try simp only [pE,List.set]
            refine Qai (rs:=[12]) (by kernel_rfl) (by simp) ?_;refine Qbc.cons (o:=_) rfl (fun K hK=>?_) (Qbc.nil);go_simp;obtain ⟨U4,qX⟩:∃ X,X=U3.alloc (.cells #[.slice A9 n c9,.slice (some ⟨g3,0,none⟩) n n] 67):=⟨_,rfl⟩;obtain ⟨g4,qG⟩:∃ G,G=U3.heap.size:=⟨_,rfl⟩;have e4:w5.heap.size≤g4:=by rw [qG];exact hB.size
            have hbn:Below U3.heap.size U3 U4:=by rw [qX];exact Qah
            have h4:Blk U4 g4 67 #[.slice A9 n c9,.slice (some ⟨g3,0,none⟩) n n]:=by rw [qX,qG];exact Blk.new _ _ _
            have h1:=h1.below hbn h1.lt;have h3:=h3.below hbn h3.lt;have h2:=h2.below hbn h2.lt;have hB':=Zb hB hbn;rw [←qX,←qG];refine hK.out _ _ hB' (fun _=>?_);clear hK K qX qG hbn hB;have hB:=hB';clear hB'
            try simp only [pE,List.set]
            refine Qai (rs:=[13]) (by kernel_rfl) (by simp) ?_;refine Qbc.cons (o:=_) rfl (fun K hK=>?_) (Qbc.nil);go_simp;refine hK.out _ _ hB (fun _=>?_);clear hK K
            try simp only [pE,List.set]
            exact ⟨by kernel_rfl,hC.out _ _ _ _ _ _ _ ⟨g1,g2,g3,g4,rfl,rfl,rfl,rfl,rfl,rfl,h1,h2,h3,h4,hB,e1,e2,e3,e4⟩⟩
          · go_simp
            obtain ⟨U4,qX⟩:∃ X,X=U3.alloc (.cells #[.slice A9 n c9,.slice (some ⟨g3,0,none⟩) n n] 67):=⟨_,rfl⟩;obtain ⟨g4,qG⟩:∃ G,G=U3.heap.size:=⟨_,rfl⟩;have e4:w5.heap.size≤g4:=by rw [qG];exact hB.size
            have hbn:Below U3.heap.size U3 U4:=by rw [qX];exact Qah
            have h4:Blk U4 g4 67 #[.slice A9 n c9,.slice (some ⟨g3,0,none⟩) n n]:=by rw [qX,qG];exact Blk.new _ _ _
            have h1:=h1.below hbn h1.lt;have h3:=h3.below hbn h3.lt;have h2:=h2.below hbn h2.lt;have hB':=Zb hB hbn;rw [←qX,←qG];refine hK.out _ _ hB' (fun _=>?_);clear hK K qX qG hbn hB;have hB:=hB';clear hB'
            try simp only [pE,List.set]
            refine Qai (rs:=[6,13]) (by kernel_rfl) (by simp) ?_;refine Qbc.cons (o:=_) rfl (fun K hK=>?_) (Qbc.cons (o:=_) rfl (fun K hK=>?_) (Qbc.nil))
            · go_simp
              refine hK.out _ _ hB (fun _=>?_);clear hK K
              try simp only [pE,List.set]
              refine Qai (rs:=[13]) (by kernel_rfl) (by simp) ?_;refine Qbc.cons (o:=_) rfl (fun K hK=>?_) (Qbc.nil);go_simp;refine hK.out _ _ hB (fun _=>?_);clear hK K
              try simp only [pE,List.set]
              exact ⟨by kernel_rfl,hC.out _ _ _ _ _ _ _ ⟨g1,g2,g3,g4,rfl,rfl,rfl,rfl,rfl,rfl,h1,h2,h3,h4,hB,e1,e2,e3,e4⟩⟩
            · go_simp
              refine hK.out _ _ hB (fun _=>?_);clear hK K
              try simp only [pE,List.set]
              refine Qai (rs:=[6]) (by kernel_rfl) (by simp) ?_;refine Qbc.cons (o:=_) rfl (fun K hK=>?_) (Qbc.nil);go_simp;refine hK.out _ _ hB (fun _=>?_);clear hK K
              try simp only [pE,List.set]
              exact ⟨by kernel_rfl,hC.out _ _ _ _ _ _ _ ⟨g1,g2,g3,g4,rfl,rfl,rfl,rfl,rfl,rfl,h1,h2,h3,h4,hB,e1,e2,e3,e4⟩⟩
        · go_simp
          obtain ⟨U3,qX⟩:∃ X,X=U2.alloc (.cells #[.slice A9 n c9,.slice (some ⟨g3,0,none⟩) n n] 67):=⟨_,rfl⟩;obtain ⟨g4,qG⟩:∃ G,G=U2.heap.size:=⟨_,rfl⟩;have e4:w5.heap.size≤g4:=by rw [qG];exact hB.size
          have hbn:Below U2.heap.size U2 U3:=by rw [qX];exact Qah
          have h4:Blk U3 g4 67 #[.slice A9 n c9,.slice (some ⟨g3,0,none⟩) n n]:=by rw [qX,qG];exact Blk.new _ _ _
          have h1:=h1.below hbn h1.lt;have h3:=h3.below hbn h3.lt;have hB':=Zb hB hbn;rw [←qX,←qG];refine hK.out _ _ hB' (fun _=>?_);clear hK K qX qG hbn hB;have hB:=hB';clear hB'
          try simp only [pE,List.set]
          refine Qai (rs:=[5,13]) (by kernel_rfl) (by simp) ?_;refine Qbc.cons (o:=_) rfl (fun K hK=>?_) (Qbc.cons (o:=_) rfl (fun K hK=>?_) (Qbc.nil))
          · go_simp
            obtain ⟨U4,qX⟩:∃ X,X=U3.alloc (.cells #[.slice (some ⟨g1,0,none⟩) n n] 67):=⟨_,rfl⟩;obtain ⟨g2,qG⟩:∃ G,G=U3.heap.size:=⟨_,rfl⟩;have e2:w5.heap.size≤g2:=by rw [qG];exact hB.size
            have hbn:Below U3.heap.size U3 U4:=by rw [qX];exact Qah
            have h2:Blk U4 g2 67 #[.slice (some ⟨g1,0,none⟩) n n]:=by rw [qX,qG];exact Blk.new _ _ _
            have h1:=h1.below hbn h1.lt;have h3:=h3.below hbn h3.lt;have h4:=h4.below hbn h4.lt;have hB':=Zb hB hbn;rw [←qX,←qG];refine hK.out _ _ hB' (fun _=>?_);clear hK K qX qG hbn hB;have hB:=hB';clear hB'
            try simp only [pE,List.set]
            refine Qai (rs:=[6,13]) (by kernel_rfl) (by simp) ?_;refine Qbc.cons (o:=_) rfl (fun K hK=>?_) (Qbc.cons (o:=_) rfl (fun K hK=>?_) (Qbc.nil))
            · go_simp
              refine hK.out _ _ hB (fun _=>?_);clear hK K
              try simp only [pE,List.set]
              refine Qai (rs:=[13]) (by kernel_rfl) (by simp) ?_;refine Qbc.cons (o:=_) rfl (fun K hK=>?_) (Qbc.nil);go_simp;refine hK.out _ _ hB (fun _=>?_);clear hK K
              try simp only [pE,List.set]
              exact ⟨by kernel_rfl,hC.out _ _ _ _ _ _ _ ⟨g1,g2,g3,g4,rfl,rfl,rfl,rfl,rfl,rfl,h1,h2,h3,h4,hB,e1,e2,e3,e4⟩⟩
            · go_simp
              refine hK.out _ _ hB (fun _=>?_);clear hK K
              try simp only [pE,List.set]
              refine Qai (rs:=[6]) (by kernel_rfl) (by simp) ?_;refine Qbc.cons (o:=_) rfl (fun K hK=>?_) (Qbc.nil);go_simp;refine hK.out _ _ hB (fun _=>?_);clear hK K
              try simp only [pE,List.set]
              exact ⟨by kernel_rfl,hC.out _ _ _ _ _ _ _ ⟨g1,g2,g3,g4,rfl,rfl,rfl,rfl,rfl,rfl,h1,h2,h3,h4,hB,e1,e2,e3,e4⟩⟩
          · go_simp
            refine hK.out _ _ hB (fun _=>?_);clear hK K
            try simp only [pE,List.set]
            refine Qai (rs:=[5]) (by kernel_rfl) (by simp) ?_;refine Qbc.cons (o:=_) rfl (fun K hK=>?_) (Qbc.nil);go_simp;obtain ⟨U4,qX⟩:∃ X,X=U3.alloc (.cells #[.slice (some ⟨g1,0,none⟩) n n] 67):=⟨_,rfl⟩;obtain ⟨g2,qG⟩:∃ G,G=U3.heap.size:=⟨_,rfl⟩;have e2:w5.heap.size≤g2:=by rw [qG];exact hB.size
            have hbn:Below U3.heap.size U3 U4:=by rw [qX];exact Qah
            have h2:Blk U4 g2 67 #[.slice (some ⟨g1,0,none⟩) n n]:=by rw [qX,qG];exact Blk.new _ _ _
            have h1:=h1.below hbn h1.lt;have h3:=h3.below hbn h3.lt;have h4:=h4.below hbn h4.lt;have hB':=Zb hB hbn;rw [←qX,←qG];refine hK.out _ _ hB' (fun _=>?_);clear hK K qX qG hbn hB;have hB:=hB';clear hB'
            try simp only [pE,List.set]
            refine Qai (rs:=[6]) (by kernel_rfl) (by simp) ?_;refine Qbc.cons (o:=_) rfl (fun K hK=>?_) (Qbc.nil);go_simp;refine hK.out _ _ hB (fun _=>?_);clear hK K
            try simp only [pE,List.set]
            exact ⟨by kernel_rfl,hC.out _ _ _ _ _ _ _ ⟨g1,g2,g3,g4,rfl,rfl,rfl,rfl,rfl,rfl,h1,h2,h3,h4,hB,e1,e2,e3,e4⟩⟩
    · go_simp
      obtain ⟨U1,qX⟩:∃ X,X=U0.alloc (.cells (Qbg (.int .i64 0) n) 3):=⟨_,rfl⟩;obtain ⟨g3,qG⟩:∃ G,G=U0.heap.size:=⟨_,rfl⟩;have e3:w5.heap.size≤g3:=by rw [qG];exact hB.size
      have hbn:Below U0.heap.size U0 U1:=by rw [qX];exact Qah
      have h3:Blk U1 g3 3 (Qbg (.int .i64 0) n):=by rw [qX,qG];exact Blk.new _ _ _
      have hB':=Zb hB hbn;rw [←qX,←qG];refine hK.out _ _ hB' (fun _=>?_);clear hK K qX qG hbn hB;have hB:=hB';clear hB'
      try simp only [pE,List.set]
      refine Qai (rs:=[4,12]) (by kernel_rfl) (by simp) ?_;refine Qbc.cons (o:=_) rfl (fun K hK=>?_) (Qbc.cons (o:=_) rfl (fun K hK=>?_) (Qbc.nil))
      · go_simp
        obtain ⟨U2,qX⟩:∃ X,X=U1.alloc (.cells (Qbg (.int .i64 0) n) 3):=⟨_,rfl⟩;obtain ⟨g1,qG⟩:∃ G,G=U1.heap.size:=⟨_,rfl⟩;have e1:w5.heap.size≤g1:=by rw [qG];exact hB.size
        have hbn:Below U1.heap.size U1 U2:=by rw [qX];exact Qah
        have h1:Blk U2 g1 3 (Qbg (.int .i64 0) n):=by rw [qX,qG];exact Blk.new _ _ _
        have h3:=h3.below hbn h3.lt;have hB':=Zb hB hbn;rw [←qX,←qG];refine hK.out _ _ hB' (fun _=>?_);clear hK K qX qG hbn hB;have hB:=hB';clear hB'
        try simp only [pE,List.set]
        refine Qai (rs:=[5,12]) (by kernel_rfl) (by simp) ?_;refine Qbc.cons (o:=_) rfl (fun K hK=>?_) (Qbc.cons (o:=_) rfl (fun K hK=>?_) (Qbc.nil))
        · go_simp
          obtain ⟨U3,qX⟩:∃ X,X=U2.alloc (.cells #[.slice (some ⟨g1,0,none⟩) n n] 67):=⟨_,rfl⟩;obtain ⟨g2,qG⟩:∃ G,G=U2.heap.size:=⟨_,rfl⟩;have e2:w5.heap.size≤g2:=by rw [qG];exact hB.size
          have hbn:Below U2.heap.size U2 U3:=by rw [qX];exact Qah
          have h2:Blk U3 g2 67 #[.slice (some ⟨g1,0,none⟩) n n]:=by rw [qX,qG];exact Blk.new _ _ _
          have h3:=h3.below hbn h3.lt;have h1:=h1.below hbn h1.lt;have hB':=Zb hB hbn;rw [←qX,←qG];refine hK.out _ _ hB' (fun _=>?_);clear hK K qX qG hbn hB;have hB:=hB';clear hB'
          try simp only [pE,List.set]
          refine Qai (rs:=[6,12]) (by kernel_rfl) (by simp) ?_;refine Qbc.cons (o:=_) rfl (fun K hK=>?_) (Qbc.cons (o:=_) rfl (fun K hK=>?_) (Qbc.nil))
          · go_simp
            refine hK.out _ _ hB (fun _=>?_);clear hK K
            try simp only [pE,List.set]
            refine Qai (rs:=[12]) (by kernel_rfl) (by simp) ?_;refine Qbc.cons (o:=_) rfl (fun K hK=>?_) (Qbc.nil);go_simp;obtain ⟨U4,qX⟩:∃ X,X=U3.alloc (.cells #[.slice A9 n c9,.slice (some ⟨g3,0,none⟩) n n] 67):=⟨_,rfl⟩;obtain ⟨g4,qG⟩:∃ G,G=U3.heap.size:=⟨_,rfl⟩;have e4:w5.heap.size≤g4:=by rw [qG];exact hB.size
            have hbn:Below U3.heap.size U3 U4:=by rw [qX];exact Qah
            have h4:Blk U4 g4 67 #[.slice A9 n c9,.slice (some ⟨g3,0,none⟩) n n]:=by rw [qX,qG];exact Blk.new _ _ _
            have h3:=h3.below hbn h3.lt;have h1:=h1.below hbn h1.lt;have h2:=h2.below hbn h2.lt;have hB':=Zb hB hbn;rw [←qX,←qG];refine hK.out _ _ hB' (fun _=>?_);clear hK K qX qG hbn hB;have hB:=hB';clear hB'
            try simp only [pE,List.set]
            refine Qai (rs:=[13]) (by kernel_rfl) (by simp) ?_;refine Qbc.cons (o:=_) rfl (fun K hK=>?_) (Qbc.nil);go_simp;refine hK.out _ _ hB (fun _=>?_);clear hK K
            try simp only [pE,List.set]
            exact ⟨by kernel_rfl,hC.out _ _ _ _ _ _ _ ⟨g1,g2,g3,g4,rfl,rfl,rfl,rfl,rfl,rfl,h1,h2,h3,h4,hB,e1,e2,e3,e4⟩⟩
          · go_simp
            obtain ⟨U4,qX⟩:∃ X,X=U3.alloc (.cells #[.slice A9 n c9,.slice (some ⟨g3,0,none⟩) n n] 67):=⟨_,rfl⟩;obtain ⟨g4,qG⟩:∃ G,G=U3.heap.size:=⟨_,rfl⟩;have e4:w5.heap.size≤g4:=by rw [qG];exact hB.size
            have hbn:Below U3.heap.size U3 U4:=by rw [qX];exact Qah
            have h4:Blk U4 g4 67 #[.slice A9 n c9,.slice (some ⟨g3,0,none⟩) n n]:=by rw [qX,qG];exact Blk.new _ _ _
            have h3:=h3.below hbn h3.lt;have h1:=h1.below hbn h1.lt;have h2:=h2.below hbn h2.lt;have hB':=Zb hB hbn;rw [←qX,←qG];refine hK.out _ _ hB' (fun _=>?_);clear hK K qX qG hbn hB;have hB:=hB';clear hB'
            try simp only [pE,List.set]
            refine Qai (rs:=[6,13]) (by kernel_rfl) (by simp) ?_;refine Qbc.cons (o:=_) rfl (fun K hK=>?_) (Qbc.cons (o:=_) rfl (fun K hK=>?_) (Qbc.nil))
            · go_simp
              refine hK.out _ _ hB (fun _=>?_);clear hK K
              try simp only [pE,List.set]
              refine Qai (rs:=[13]) (by kernel_rfl) (by simp) ?_;refine Qbc.cons (o:=_) rfl (fun K hK=>?_) (Qbc.nil);go_simp;refine hK.out _ _ hB (fun _=>?_);clear hK K
              try simp only [pE,List.set]
              exact ⟨by kernel_rfl,hC.out _ _ _ _ _ _ _ ⟨g1,g2,g3,g4,rfl,rfl,rfl,rfl,rfl,rfl,h1,h2,h3,h4,hB,e1,e2,e3,e4⟩⟩
            · go_simp
              refine hK.out _ _ hB (fun _=>?_);clear hK K
              try simp only [pE,List.set]
              refine Qai (rs:=[6]) (by kernel_rfl) (by simp) ?_;refine Qbc.cons (o:=_) rfl (fun K hK=>?_) (Qbc.nil);go_simp;refine hK.out _ _ hB (fun _=>?_);clear hK K
              try simp only [pE,List.set]
              exact ⟨by kernel_rfl,hC.out _ _ _ _ _ _ _ ⟨g1,g2,g3,g4,rfl,rfl,rfl,rfl,rfl,rfl,h1,h2,h3,h4,hB,e1,e2,e3,e4⟩⟩
        · go_simp
          obtain ⟨U3,qX⟩:∃ X,X=U2.alloc (.cells #[.slice A9 n c9,.slice (some ⟨g3,0,none⟩) n n] 67):=⟨_,rfl⟩;obtain ⟨g4,qG⟩:∃ G,G=U2.heap.size:=⟨_,rfl⟩;have e4:w5.heap.size≤g4:=by rw [qG];exact hB.size
          have hbn:Below U2.heap.size U2 U3:=by rw [qX];exact Qah
          have h4:Blk U3 g4 67 #[.slice A9 n c9,.slice (some ⟨g3,0,none⟩) n n]:=by rw [qX,qG];exact Blk.new _ _ _
          have h3:=h3.below hbn h3.lt;have h1:=h1.below hbn h1.lt;have hB':=Zb hB hbn;rw [←qX,←qG];refine hK.out _ _ hB' (fun _=>?_);clear hK K qX qG hbn hB;have hB:=hB';clear hB'
          try simp only [pE,List.set]
          refine Qai (rs:=[5,13]) (by kernel_rfl) (by simp) ?_;refine Qbc.cons (o:=_) rfl (fun K hK=>?_) (Qbc.cons (o:=_) rfl (fun K hK=>?_) (Qbc.nil))
          · go_simp
            obtain ⟨U4,qX⟩:∃ X,X=U3.alloc (.cells #[.slice (some ⟨g1,0,none⟩) n n] 67):=⟨_,rfl⟩;obtain ⟨g2,qG⟩:∃ G,G=U3.heap.size:=⟨_,rfl⟩;have e2:w5.heap.size≤g2:=by rw [qG];exact hB.size
            have hbn:Below U3.heap.size U3 U4:=by rw [qX];exact Qah
            have h2:Blk U4 g2 67 #[.slice (some ⟨g1,0,none⟩) n n]:=by rw [qX,qG];exact Blk.new _ _ _
            have h3:=h3.below hbn h3.lt;have h1:=h1.below hbn h1.lt;have h4:=h4.below hbn h4.lt;have hB':=Zb hB hbn;rw [←qX,←qG];refine hK.out _ _ hB' (fun _=>?_);clear hK K qX qG hbn hB;have hB:=hB';clear hB'
            try simp only [pE,List.set]
            refine Qai (rs:=[6,13]) (by kernel_rfl) (by simp) ?_;refine Qbc.cons (o:=_) rfl (fun K hK=>?_) (Qbc.cons (o:=_) rfl (fun K hK=>?_) (Qbc.nil))
            · go_simp
              refine hK.out _ _ hB (fun _=>?_);clear hK K
              try simp only [pE,List.set]
              refine Qai (rs:=[13]) (by kernel_rfl) (by simp) ?_;refine Qbc.cons (o:=_) rfl (fun K hK=>?_) (Qbc.nil);go_simp;refine hK.out _ _ hB (fun _=>?_);clear hK K
              try simp only [pE,List.set]
              exact ⟨by kernel_rfl,hC.out _ _ _ _ _ _ _ ⟨g1,g2,g3,g4,rfl,rfl,rfl,rfl,rfl,rfl,h1,h2,h3,h4,hB,e1,e2,e3,e4⟩⟩
            · go_simp
              refine hK.out _ _ hB (fun _=>?_);clear hK K
              try simp only [pE,List.set]
              refine Qai (rs:=[6]) (by kernel_rfl) (by simp) ?_;refine Qbc.cons (o:=_) rfl (fun K hK=>?_) (Qbc.nil);go_simp;refine hK.out _ _ hB (fun _=>?_);clear hK K
              try simp only [pE,List.set]
              exact ⟨by kernel_rfl,hC.out _ _ _ _ _ _ _ ⟨g1,g2,g3,g4,rfl,rfl,rfl,rfl,rfl,rfl,h1,h2,h3,h4,hB,e1,e2,e3,e4⟩⟩
          · go_simp
            refine hK.out _ _ hB (fun _=>?_);clear hK K
            try simp only [pE,List.set]
            refine Qai (rs:=[5]) (by kernel_rfl) (by simp) ?_;refine Qbc.cons (o:=_) rfl (fun K hK=>?_) (Qbc.nil);go_simp;obtain ⟨U4,qX⟩:∃ X,X=U3.alloc (.cells #[.slice (some ⟨g1,0,none⟩) n n] 67):=⟨_,rfl⟩;obtain ⟨g2,qG⟩:∃ G,G=U3.heap.size:=⟨_,rfl⟩;have e2:w5.heap.size≤g2:=by rw [qG];exact hB.size
            have hbn:Below U3.heap.size U3 U4:=by rw [qX];exact Qah
            have h2:Blk U4 g2 67 #[.slice (some ⟨g1,0,none⟩) n n]:=by rw [qX,qG];exact Blk.new _ _ _
            have h3:=h3.below hbn h3.lt;have h1:=h1.below hbn h1.lt;have h4:=h4.below hbn h4.lt;have hB':=Zb hB hbn;rw [←qX,←qG];refine hK.out _ _ hB' (fun _=>?_);clear hK K qX qG hbn hB;have hB:=hB';clear hB'
            try simp only [pE,List.set]
            refine Qai (rs:=[6]) (by kernel_rfl) (by simp) ?_;refine Qbc.cons (o:=_) rfl (fun K hK=>?_) (Qbc.nil);go_simp;refine hK.out _ _ hB (fun _=>?_);clear hK K
            try simp only [pE,List.set]
            exact ⟨by kernel_rfl,hC.out _ _ _ _ _ _ _ ⟨g1,g2,g3,g4,rfl,rfl,rfl,rfl,rfl,rfl,h1,h2,h3,h4,hB,e1,e2,e3,e4⟩⟩
      · go_simp
        obtain ⟨U2,qX⟩:∃ X,X=U1.alloc (.cells #[.slice A9 n c9,.slice (some ⟨g3,0,none⟩) n n] 67):=⟨_,rfl⟩;obtain ⟨g4,qG⟩:∃ G,G=U1.heap.size:=⟨_,rfl⟩;have e4:w5.heap.size≤g4:=by rw [qG];exact hB.size
        have hbn:Below U1.heap.size U1 U2:=by rw [qX];exact Qah
        have h4:Blk U2 g4 67 #[.slice A9 n c9,.slice (some ⟨g3,0,none⟩) n n]:=by rw [qX,qG];exact Blk.new _ _ _
        have h3:=h3.below hbn h3.lt;have hB':=Zb hB hbn;rw [←qX,←qG];refine hK.out _ _ hB' (fun _=>?_);clear hK K qX qG hbn hB;have hB:=hB';clear hB'
        try simp only [pE,List.set]
        refine Qai (rs:=[4,13]) (by kernel_rfl) (by simp) ?_;refine Qbc.cons (o:=_) rfl (fun K hK=>?_) (Qbc.cons (o:=_) rfl (fun K hK=>?_) (Qbc.nil))
        · go_simp
          obtain ⟨U3,qX⟩:∃ X,X=U2.alloc (.cells (Qbg (.int .i64 0) n) 3):=⟨_,rfl⟩;obtain ⟨g1,qG⟩:∃ G,G=U2.heap.size:=⟨_,rfl⟩;have e1:w5.heap.size≤g1:=by rw [qG];exact hB.size
          have hbn:Below U2.heap.size U2 U3:=by rw [qX];exact Qah
          have h1:Blk U3 g1 3 (Qbg (.int .i64 0) n):=by rw [qX,qG];exact Blk.new _ _ _
          have h3:=h3.below hbn h3.lt;have h4:=h4.below hbn h4.lt;have hB':=Zb hB hbn;rw [←qX,←qG];refine hK.out _ _ hB' (fun _=>?_);clear hK K qX qG hbn hB;have hB:=hB';clear hB'
          try simp only [pE,List.set]
          refine Qai (rs:=[5,13]) (by kernel_rfl) (by simp) ?_;refine Qbc.cons (o:=_) rfl (fun K hK=>?_) (Qbc.cons (o:=_) rfl (fun K hK=>?_) (Qbc.nil))
          · go_simp
            obtain ⟨U4,qX⟩:∃ X,X=U3.alloc (.cells #[.slice (some ⟨g1,0,none⟩) n n] 67):=⟨_,rfl⟩;obtain ⟨g2,qG⟩:∃ G,G=U3.heap.size:=⟨_,rfl⟩;have e2:w5.heap.size≤g2:=by rw [qG];exact hB.size
            have hbn:Below U3.heap.size U3 U4:=by rw [qX];exact Qah
            have h2:Blk U4 g2 67 #[.slice (some ⟨g1,0,none⟩) n n]:=by rw [qX,qG];exact Blk.new _ _ _
            have h3:=h3.below hbn h3.lt;have h4:=h4.below hbn h4.lt;have h1:=h1.below hbn h1.lt;have hB':=Zb hB hbn;rw [←qX,←qG];refine hK.out _ _ hB' (fun _=>?_);clear hK K qX qG hbn hB;have hB:=hB';clear hB'
            try simp only [pE,List.set]
            refine Qai (rs:=[6,13]) (by kernel_rfl) (by simp) ?_;refine Qbc.cons (o:=_) rfl (fun K hK=>?_) (Qbc.cons (o:=_) rfl (fun K hK=>?_) (Qbc.nil))
            · go_simp
              refine hK.out _ _ hB (fun _=>?_);clear hK K
              try simp only [pE,List.set]
              refine Qai (rs:=[13]) (by kernel_rfl) (by simp) ?_;refine Qbc.cons (o:=_) rfl (fun K hK=>?_) (Qbc.nil);go_simp;refine hK.out _ _ hB (fun _=>?_);clear hK K
              try simp only [pE,List.set]
              exact ⟨by kernel_rfl,hC.out _ _ _ _ _ _ _ ⟨g1,g2,g3,g4,rfl,rfl,rfl,rfl,rfl,rfl,h1,h2,h3,h4,hB,e1,e2,e3,e4⟩⟩
            · go_simp
              refine hK.out _ _ hB (fun _=>?_);clear hK K
              try simp only [pE,List.set]
              refine Qai (rs:=[6]) (by kernel_rfl) (by simp) ?_;refine Qbc.cons (o:=_) rfl (fun K hK=>?_) (Qbc.nil);go_simp;refine hK.out _ _ hB (fun _=>?_);clear hK K
              try simp only [pE,List.set]
              exact ⟨by kernel_rfl,hC.out _ _ _ _ _ _ _ ⟨g1,g2,g3,g4,rfl,rfl,rfl,rfl,rfl,rfl,h1,h2,h3,h4,hB,e1,e2,e3,e4⟩⟩
          · go_simp
            refine hK.out _ _ hB (fun _=>?_);clear hK K
            try simp only [pE,List.set]
            refine Qai (rs:=[5]) (by kernel_rfl) (by simp) ?_;refine Qbc.cons (o:=_) rfl (fun K hK=>?_) (Qbc.nil);go_simp;obtain ⟨U4,qX⟩:∃ X,X=U3.alloc (.cells #[.slice (some ⟨g1,0,none⟩) n n] 67):=⟨_,rfl⟩;obtain ⟨g2,qG⟩:∃ G,G=U3.heap.size:=⟨_,rfl⟩;have e2:w5.heap.size≤g2:=by rw [qG];exact hB.size
            have hbn:Below U3.heap.size U3 U4:=by rw [qX];exact Qah
            have h2:Blk U4 g2 67 #[.slice (some ⟨g1,0,none⟩) n n]:=by rw [qX,qG];exact Blk.new _ _ _
            have h3:=h3.below hbn h3.lt;have h4:=h4.below hbn h4.lt;have h1:=h1.below hbn h1.lt;have hB':=Zb hB hbn;rw [←qX,←qG];refine hK.out _ _ hB' (fun _=>?_);clear hK K qX qG hbn hB;have hB:=hB';clear hB'
            try simp only [pE,List.set]
            refine Qai (rs:=[6]) (by kernel_rfl) (by simp) ?_;refine Qbc.cons (o:=_) rfl (fun K hK=>?_) (Qbc.nil);go_simp;refine hK.out _ _ hB (fun _=>?_);clear hK K
            try simp only [pE,List.set]
            exact ⟨by kernel_rfl,hC.out _ _ _ _ _ _ _ ⟨g1,g2,g3,g4,rfl,rfl,rfl,rfl,rfl,rfl,h1,h2,h3,h4,hB,e1,e2,e3,e4⟩⟩
        · go_simp
          refine hK.out _ _ hB (fun _=>?_);clear hK K
          try simp only [pE,List.set]
          refine Qai (rs:=[4]) (by kernel_rfl) (by simp) ?_;refine Qbc.cons (o:=_) rfl (fun K hK=>?_) (Qbc.nil);go_simp;obtain ⟨U3,qX⟩:∃ X,X=U2.alloc (.cells (Qbg (.int .i64 0) n) 3):=⟨_,rfl⟩;obtain ⟨g1,qG⟩:∃ G,G=U2.heap.size:=⟨_,rfl⟩;have e1:w5.heap.size≤g1:=by rw [qG];exact hB.size
          have hbn:Below U2.heap.size U2 U3:=by rw [qX];exact Qah
          have h1:Blk U3 g1 3 (Qbg (.int .i64 0) n):=by rw [qX,qG];exact Blk.new _ _ _
          have h3:=h3.below hbn h3.lt;have h4:=h4.below hbn h4.lt;have hB':=Zb hB hbn;rw [←qX,←qG];refine hK.out _ _ hB' (fun _=>?_);clear hK K qX qG hbn hB;have hB:=hB';clear hB'
          try simp only [pE,List.set]
          refine Qai (rs:=[5]) (by kernel_rfl) (by simp) ?_;refine Qbc.cons (o:=_) rfl (fun K hK=>?_) (Qbc.nil);go_simp;obtain ⟨U4,qX⟩:∃ X,X=U3.alloc (.cells #[.slice (some ⟨g1,0,none⟩) n n] 67):=⟨_,rfl⟩;obtain ⟨g2,qG⟩:∃ G,G=U3.heap.size:=⟨_,rfl⟩;have e2:w5.heap.size≤g2:=by rw [qG];exact hB.size
          have hbn:Below U3.heap.size U3 U4:=by rw [qX];exact Qah
          have h2:Blk U4 g2 67 #[.slice (some ⟨g1,0,none⟩) n n]:=by rw [qX,qG];exact Blk.new _ _ _
          have h3:=h3.below hbn h3.lt;have h4:=h4.below hbn h4.lt;have h1:=h1.below hbn h1.lt;have hB':=Zb hB hbn;rw [←qX,←qG];refine hK.out _ _ hB' (fun _=>?_);clear hK K qX qG hbn hB;have hB:=hB';clear hB'
          try simp only [pE,List.set]
          refine Qai (rs:=[6]) (by kernel_rfl) (by simp) ?_;refine Qbc.cons (o:=_) rfl (fun K hK=>?_) (Qbc.nil);go_simp;refine hK.out _ _ hB (fun _=>?_);clear hK K
          try simp only [pE,List.set]
          exact ⟨by kernel_rfl,hC.out _ _ _ _ _ _ _ ⟨g1,g2,g3,g4,rfl,rfl,rfl,rfl,rfl,rfl,h1,h2,h3,h4,hB,e1,e2,e3,e4⟩⟩
  · rintro v1 v2 v3 v4 v5 v6 w6 ⟨g1,g2,g3,g4,rfl,rfl,rfl,rfl,rfl,rfl,k1,k2,k3,k4,hb6,e1,e2,e3,e4⟩
    simp only [pE,List.set];obtain ⟨w7,hw7⟩:∃ W,W=w6.alloc (.cells #[.slice Q L cq,.slice (some ⟨g2,0,none⟩) 1 1,.slice (some ⟨g4,0,none⟩) 2 2] 29):=⟨_,rfl⟩;have hb7:Below w6.heap.size w6 w7:=by rw [hw7];exact Qah
    have hP7:Blk w7 w6.heap.size 29 #[.slice Q L cq,.slice (some ⟨g2,0,none⟩) 1 1,.slice (some ⟨g4,0,none⟩) 2 2]:=by rw [hw7];exact Blk.new _ _ _
    have hb57:=Zb hb6 hb7;refine Zk 14 (fun K hK=>?_);go_simp;rw [←hw7];refine hK.out _ _ hb57 (fun _=>?_);clear hK K hw7;refine tz 15 72 ?_;refine Zd ?_;have hgd5:gd<w5.heap.size:=HD5.out.lt
    have hB7:=Zb HB5.out hb57;have j1:=k1.below hb7 k1.lt;have j2:=k2.below hb7 k2.lt;have j3:=k3.below hb7 k3.lt;have j4:=k4.below hb7 k4.lt;have hmk2:∀ (g9 i9:Nat) (v9:Value),w5.heap.size≤g9→w7.cell? ⟨g9,i9,none⟩=some v9→(msk w7 (fun b=>b≠gd)).cell? ⟨g9,i9,none⟩=some v9:=fun g9 i9 v9 h9 hc=>Qaz.2 ⟨by simp only;omega,hc⟩
    have hrI:∀ (g9:Nat) (l9:List Int),w5.heap.size≤g9→RdI w7 (some ⟨g9,0,none⟩) n l9→RdI (msk w7 (fun b=>b≠gd)) (some ⟨g9,0,none⟩) n l9:=fun g9 l9 h9 hr=>⟨hr.1,fun i x hx=>by
     obtain ⟨b,o,e,hc⟩:=hr.2 i x hx
     cases e
     exact ⟨g9,0,rfl,hmk2 _ _ _ h9 hc⟩⟩
    have hn0:0<n:=by
     obtain ⟨y,hy⟩:∃ y,N.ar[s]?=some y:=⟨_,Zg (by rw [HNA.out];exact hsm)⟩;obtain ⟨u,v,_,_,hu,_⟩:=Qfj hok hy;have:=HNV.out;omega
    have hvl:n≤24:=by rw [←HNV.out];exact HMAY.out.small.v
    have hel:∀ (a:Addr) (v:Value),w.cell? a=some v→(msk w7 (fun b=>b≠gd)).cell? a=some v:=fun a v hc=>Qaz.2 ⟨by have:=Qal hc;have:=HGD.out;omega,Zc hB7 (Zn _) hc⟩
    have HNM:=Zh (show Qca (msk w7 (fun b=>b≠gd)) A B C n m k N from HH.out.le hel)
    have hown:RdI (msk w7 (fun b=>b≠gd)) A9 n (Qsa n):=by
     have h9:=(HO5.out.below hb57).rds.rdI
     exact ⟨h9.1,fun i x hx=>by
      obtain ⟨b,o,e,hc⟩:=h9.2 i x hx;exact ⟨b,o,e,Qaz.2 ⟨HOL.out b (by rw [e];rfl),hc⟩⟩⟩
    have HFEW:=Zh (show ∀ ls',Qay N.vs.length ls'→Qbv (Qae N.ar ls')≤1000000000 from fun ls' hp=>sumA_few ⟨HMAY.out.small,⟨by have:=hp.l6;omega,fun l hl=>by have:=(hp.lvl l hl).len;have:=HMAY.out.small.v;omega⟩,hp⟩)
    have HPR:=Zh (show ∀ i,i<3→∃ (Qi:Option Addr) (Li ci:Nat) (lsi:List (List Int)),w7.cell? ⟨w6.heap.size,i,none⟩=some (.slice Qi Li ci)∧RdT (msk w7 (fun b=>b≠gd)) Qi Li lsi∧Qay N.vs.length lsi from fun i hi=>by
     rcases (by omega:i=0∨i=1∨i=2) with rfl|rfl|rfl
     · exact ⟨Q,L,cq,ls,Zq hP7,HT.out.le hel,HMAY.out.part⟩
     · refine ⟨some ⟨g2,0,none⟩,1,1,[Quo n],Zq hP7,⟨rfl,fun i l hl=>?_⟩,by rw [HNV.out];exact Qtr hn0⟩
       match i,hl with
       | 0,hl =>
        cases hl
        exact ⟨g2,0,some ⟨g1,0,none⟩,n,n,rfl,hmk2 _ _ _ e2 (Zq j2),hrI _ _ e1 (Qro j1),Zn _,by omega⟩
       | k+1,hl=>simp at hl
     · refine ⟨some ⟨g4,0,none⟩,2,2,[Qsa n,Quo n],Zq hP7,⟨rfl,fun i l hl=>?_⟩,by rw [HNV.out];exact Qub hn0⟩
       match i,hl with
       | 0,hl =>
        cases hl
        exact ⟨g4,0,A9,n,c9,rfl,hmk2 _ _ _ e4 (Zq j4),hown,HO5.out.cap,HO5.out.capMax⟩
       | 1,hl =>
        cases hl
        exact ⟨g4,0,some ⟨g3,0,none⟩,n,n,rfl,hmk2 _ _ _ e4 (Zq j4),hrI _ _ e3 (Qro j3),Zn _,by omega⟩
       | k+2,hl=>simp at hl)
    have HD7:=Zh (HD5.out.below hb57 HD5.out.lt);have HX7:=Zh (HX5.out.below hb57 HX5.out.lt);have HB7:=Zh hB7;have HP7:=Zh hP7;have HB57:=Zh hb57;have HZ67:=Zh (show gd<w6.heap.size from Nat.lt_of_lt_of_le hgd5 hb6.size)
    have HP67:=Zh hP7.lt;obtain ⟨xs,hxs⟩:∃ xs,N.ar[s]?=some xs:=⟨_,Zg (by rw [HNA.out];exact hsm)⟩;obtain ⟨xt,hxt⟩:∃ xt,N.ar[t]?=some xt:=⟨_,Zg (by rw [HNA.out];exact htm)⟩;clear k1 k2 k3 k4 j1 j2 j3 j4 hb6 hb7 hb57 hP7 hB7 hmk hmk2 hrI hown hel e1 e2 e3 e4 HO5 HX5 HY5 HSX hgd5 HX4 HY4
    go_wp2_with fail
    go_loopw [73] (fun q W=>∃ (i:Nat) (d0 d1 d2:Int),i≤3∧q=.int .i64 i∧(Qbk (fun b=>b≠gd) w7 W∧w7.heap.size≤W.heap.size∧Below gd w7 W)∧Blk W gd 68 #[.int .i64 d0,.int .i64 d1,.int .i64 d2]∧(0<i→Qkn N s t d0)∧(1<i→Qkn N s t d1)∧(2<i→Qkn N s t d2)) (fun q _=>3-(intOf q).toNat)
    case atStart=>exact ⟨0,0,0,0,by omega,rfl,⟨Qbk.refl _ _,Zn _,Zr _ _⟩,HD7.out,fun h=>by omega,fun h=>by omega,fun h=>by omega⟩
    case round =>
     obtain ⟨i,d0,d1,d2,hi,rfl,⟨hkp,hsz,hbg⟩,hD,hv0,hv1,hv2⟩:=hrel;have HV0:=Zh hv0;have HV1:=Zh hv1;have HV2:=Zh hv2;have HDr:=Zh hD;have HBG:=Zh hbg;clear hv0 hv1 hv2;have hbw:Below w.heap.size w wr:=HB7.out.trans (hbg.mono (by have:=HGD.out;omega))
     by_cases hlt:i<3
     rotate_left
     · obtain rfl:i=3:=by omega
       obtain rfl:=(HV0.out (by omega)).uniq (HV1.out (by omega));obtain rfl:=(HV0.out (by omega)).uniq (HV2.out (by omega));obtain ⟨z0,z1,z2⟩:=hD.three;clear hi hlt hkp hsz hbg
       go_wp2_with fail
       go_ret
       exact ⟨rfl,hbw⟩
     obtain ⟨Qi,Li,ci,lsi,hpc,hpr,hpo⟩:=HPR.out i hlt;have hlk:Le (msk w7 (fun b=>b≠gd)) wr:=fun a v hc=>(Qaz.1 (Qbk.msk hkp a v hc)).2
     have hpc':wr.cell? ⟨w6.heap.size,i,none⟩=some (.slice Qi Li ci):=Qea (hkp w6.heap.size (by have:=HZ67.out;simp only;omega) HP67.out) hpc;have pl:w6.heap.size<wr.heap.size:=Nat.lt_of_lt_of_le HP67.out hsz
     have hXr:Blk wr w.heap.size 26 #[.slice A n c,.slice B m d,.slice C k e]:=HX7.out.below hbg (by have:=HGD.out;omega);obtain ⟨x0,x1,x2⟩:=hXr.three;have xl:=hXr.lt;obtain ⟨w8,hw8⟩:∃ W,W=wr.alloc (.cells #[.slice Qi Li ci] 29):=⟨_,rfl⟩;have hb8:Below wr.heap.size wr w8:=by rw [hw8];exact Qah
     have HRD:=Zh (Qrs A B C Qi n m k c d e Li ci N lsi w8 ((HNM.out.le hlk).below hb8) hok ((hpr.le hlk).below hb8) hpo (HFEW.out lsi hpo));have HPO:=Zh hpo;have HB8:=Zh hb8;have Hw8:=Zh hw8;have HKP:=Zh hkp;have HSZ:=Zh hsz;have HBW:=Zh hbw;have i1:(i:Int)<3:=by omega
     have i2:(0:Int)≤(i:Int):=by omega
     clear hpc hpr hpo hlk hXr hb8 hw8 hkp hsz hbg hbw hD
     go_wp2_with fail
     rw [←Hw8.out];clear x0 x1 x2 xl hpc' pl Hw8;with_reducible refine HRD.out.mono ?_
     unfold Qrd;rintro r w9 ⟨⟨g,o,CB,NC,cl,F,rfl,hNCe,hG5,hF5,hO5,hC5,hA5⟩,hb9⟩;have hNC9:NC≤1000000000:=by rw [hNCe];exact HFEW.out lsi HPO.out
     have hC9:RdI w9 (some ⟨CB,0,none⟩) NC cl:=⟨hC5.1,fun i x hx=>by obtain ⟨b,o,e,h1⟩:=hC5.2 i x hx;exact ⟨b,o,e,Qbj _ _ _ _ h1⟩⟩;have HDI:=Zh (Qie w9 g o N lsi (some ⟨CB,0,none⟩) NC NC cl s t xs xt hG5.rd (hO5.le (Qbj _ _)) hC9 hok HPO.out hA5 ⟨Zn _,by omega⟩ (HFEW.out lsi HPO.out) hxs hxt);have HB9:=Zh (Zb HB8.out hb9);clear hNCe hG5 hF5 hO5 hC5 hA5 hb9 hNC9 hC9 HRD
     go_wp2_with fail
     with_reducible refine HDI.out.mono ?_
     rintro r wa ⟨⟨v,rfl,hv⟩,hba⟩;have HV:=Zh hv;have hbra:=Zb HB9.out hba;have hDa:=HDr.out.below hbra HDr.out.lt;have HDa:=Zh hDa;have HBra:=Zh hbra
     rcases (by omega:i=0∨i=1∨i=2) with rfl|rfl|rfl
     · skip
       obtain ⟨z0,z1,z2⟩:=hDa.three;have fz:=hDa.frozen 0;have hset:=hDa.set_ 0 (.int .i64 v);have hkz:Qbk (fun b=>b≠gd) w7 (wa.setCell ⟨gd,0,none⟩ (.int .i64 v)):=(HKP.out.trans (Qbk.below HBra.out) HSZ.out).trans (Qbk.set wa gd 0 (.int .i64 v) (fun h=>h rfl)) (Nat.le_trans HSZ.out HBra.out.size);have hsz2:w7.heap.size≤(wa.setCell ⟨gd,0,none⟩ (.int .i64 v)).heap.size:=by simp only [World.setCell];exact Nat.le_trans HSZ.out (by simpa using HBra.out.size)
       have hbg2:Below gd w7 (wa.setCell ⟨gd,0,none⟩ (.int .i64 v)):=(HBG.out.trans (HBra.out.mono (Nat.le_of_lt HDr.out.lt))).setCell (Zn _) _;have HKZ:=Zh (And.intro hkz (And.intro hsz2 hbg2));have HSET:=Zh hset;clear hkz hsz2 hbg2 hset hv hba hbra hDa hlt hi
       go_wp2_with fail
       go_roundw
       case rel=>exact ⟨0+1,v,d1,d2,by omega,by go_num,HKZ.out,by simpa using HSET.out,fun _=>HV.out,fun h=>by omega,fun h=>by omega⟩
       case measure=>simp [intOf]
     · skip
       obtain ⟨z0,z1,z2⟩:=hDa.three;have fz:=hDa.frozen 1;have hset:=hDa.set_ 1 (.int .i64 v);have hkz:Qbk (fun b=>b≠gd) w7 (wa.setCell ⟨gd,1,none⟩ (.int .i64 v)):=(HKP.out.trans (Qbk.below HBra.out) HSZ.out).trans (Qbk.set wa gd 1 (.int .i64 v) (fun h=>h rfl)) (Nat.le_trans HSZ.out HBra.out.size);have hsz2:w7.heap.size≤(wa.setCell ⟨gd,1,none⟩ (.int .i64 v)).heap.size:=by simp only [World.setCell];exact Nat.le_trans HSZ.out (by simpa using HBra.out.size)
       have hbg2:Below gd w7 (wa.setCell ⟨gd,1,none⟩ (.int .i64 v)):=(HBG.out.trans (HBra.out.mono (Nat.le_of_lt HDr.out.lt))).setCell (Zn _) _;have HKZ:=Zh (And.intro hkz (And.intro hsz2 hbg2));have HSET:=Zh hset;clear hkz hsz2 hbg2 hset hv hba hbra hDa hlt hi
       go_wp2_with fail
       go_roundw
       case rel=>exact ⟨1+1,d0,v,d2,by omega,by go_num,HKZ.out,by simpa using HSET.out,fun _=>HV0.out (by omega),fun _=>HV.out,fun h=>by omega⟩
       case measure=>simp [intOf]
     · skip
       obtain ⟨z0,z1,z2⟩:=hDa.three;have fz:=hDa.frozen 2;have hset:=hDa.set_ 2 (.int .i64 v);have hkz:Qbk (fun b=>b≠gd) w7 (wa.setCell ⟨gd,2,none⟩ (.int .i64 v)):=(HKP.out.trans (Qbk.below HBra.out) HSZ.out).trans (Qbk.set wa gd 2 (.int .i64 v) (fun h=>h rfl)) (Nat.le_trans HSZ.out HBra.out.size);have hsz2:w7.heap.size≤(wa.setCell ⟨gd,2,none⟩ (.int .i64 v)).heap.size:=by simp only [World.setCell];exact Nat.le_trans HSZ.out (by simpa using HBra.out.size)
       have hbg2:Below gd w7 (wa.setCell ⟨gd,2,none⟩ (.int .i64 v)):=(HBG.out.trans (HBra.out.mono (Nat.le_of_lt HDr.out.lt))).setCell (Zn _) _;have HKZ:=Zh (And.intro hkz (And.intro hsz2 hbg2));have HSET:=Zh hset;clear hkz hsz2 hbg2 hset hv hba hbra hDa hlt hi
       go_wp2_with fail
       go_roundw
       case rel=>exact ⟨2+1,d0,d1,v,by omega,by go_num,HKZ.out,by simpa using HSET.out,fun _=>HV0.out (by omega),fun _=>HV1.out (by omega),fun _=>HV.out⟩
       case measure=>simp [intOf]
end Go.Proofs.YteaoiabikjnkeaaGreatDoor
