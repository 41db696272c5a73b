/- Parts of the proof: AsD, Pe, Sf, TaE. -/
import Derived.Test.YteaoiabikjnkeaaGreatDoorE3
import Derived.Test.YteaoiabikjnkeaaGreatDoorR40
namespace Go.Proofs.YteaoiabikjnkeaaGreatDoor
open Go.RowKit Go.Proofs.Tryz
attribute [local go_sem ↓] Go.wp_at_zero Go.wp_at_succ
def askBad (m NC S:Nat)(s t:Int):Option (Int×Int):=if s<0∨(m:Int)≤s then some (0,5) else if t<0∨(m:Int)≤t then some (1,5) else if NC≠S then some (2,1) else none
def CkPost (w:World) (b:Option (Int×Int)) (e:Ending) (w':World):Prop:=(match b with|none=>e=.returned .nilIface|some (k,c)=>∃ v,e=.returned v∧Qcl w' v [((⟨#[97,115,107]⟩:ByteArray),k)] c)∧Below w.heap.size w w'
set_option maxHeartbeats 1000000 in
theorem askCheck_ok (w:World)(g o:Nat)(N:Qap) (ls:List (List Int)) (CA:Option Addr) (NC cC S:Nat) (s t:Int) (hg:Qfv w g N) (ho:Qgy w o N.ar ls) (hS:S=Qcd (Qaf N.ar ls)) (hS2:S≤1000000000) :
 Calls prog 62 #[.pointer (some ⟨g,0,none⟩),.pointer (some ⟨o,0,none⟩),.slice CA NC cC,.int .i64 s,.int .i64 t] w (CkPost w (askBad N.ar.length NC S s t)):=by
 obtain ⟨m,hmm⟩:∃ m,m=N.ar.length:=⟨_,rfl⟩;have HGA:=Zh (show Calls prog 85 #[.pointer (some ⟨g,0,none⟩)] w fun e w'=>e=.returned (.int .i64 m)∧w=w' from by rw [hmm];exact Qfp g N w hg)
 have HSZ:=Zh (show Calls prog 84 #[.pointer (some ⟨o,0,none⟩)] w fun e w'=>e=.returned (.int .i64 (S:Nat))∧w=w' from by rw [hS];exact Qku o N.ar ls w ho)
 rw [←hmm];clear hg ho hS hmm;unfold askBad
 by_cases i1:s<0
 · rw [if_pos (.inl i1)]
   unfold CkPost
   go_enter func62,ntmps62
   go_wp2_with fail
   with_reducible refine HGA.out.mono ?_
   rintro r w' ⟨rfl,rfl⟩
   go_wp2_with fail
   go_ret
   refine ⟨⟨_,rfl,w.heap.size,0,Quv 5,rfl,?_,?_,?_,rfl⟩,Qah⟩
   all_goals simp
 have i1':¬s<0:=i1
 by_cases i2:(m:Int)≤s
 · rw [if_pos (.inr i2)]
   unfold CkPost
   go_enter func62,ntmps62
   go_wp2_with fail
   with_reducible refine HGA.out.mono ?_
   rintro r w' ⟨rfl,rfl⟩
   go_wp2_with fail
   go_ret
   refine ⟨⟨_,rfl,w.heap.size,0,Quv 5,rfl,?_,?_,?_,rfl⟩,Qah⟩
   all_goals simp
 rw [if_neg (by omega)]
 by_cases i3:t<0
 · rw [if_pos (.inl i3)]
   unfold CkPost
   go_enter func62,ntmps62
   go_wp2_with fail
   with_reducible refine HGA.out.mono ?_
   rintro r w' ⟨rfl,rfl⟩
   go_wp2_with fail
   go_ret
   refine ⟨⟨_,rfl,w.heap.size,0,Quv 5,rfl,?_,?_,?_,rfl⟩,Qah⟩
   all_goals simp
 by_cases i4:(m:Int)≤t
 · rw [if_pos (.inr i4)]
   unfold CkPost
   go_enter func62,ntmps62
   go_wp2_with fail
   with_reducible refine HGA.out.mono ?_
   rintro r w' ⟨rfl,rfl⟩
   go_wp2_with fail
   go_ret
   refine ⟨⟨_,rfl,w.heap.size,0,Quv 5,rfl,?_,?_,?_,rfl⟩,Qah⟩
   all_goals simp
 rw [if_neg (by omega)]
 by_cases i5:NC=S
 · rw [if_neg (fun h=>h i5)]
   unfold CkPost;subst i5
   go_enter func62,ntmps62
   go_wp2_with fail
   with_reducible refine HGA.out.mono ?_
   rintro r w' ⟨rfl,rfl⟩
   go_wp2_with fail
   with_reducible refine HSZ.out.mono ?_
   rintro r w' ⟨rfl,rfl⟩
   go_wp2_with fail
   go_ret
   exact ⟨rfl,Zr _ _⟩
 · rw [if_pos i5]
   unfold CkPost;have i6:¬(NC:Int)=(S:Int):=by omega
   go_enter func62,ntmps62
   go_wp2_with fail
   with_reducible refine HGA.out.mono ?_
   rintro r w' ⟨rfl,rfl⟩
   go_wp2_with fail
   with_reducible refine HSZ.out.mono ?_
   rintro r w' ⟨rfl,rfl⟩
   go_wp2_with fail
   go_ret
   refine ⟨⟨_,rfl,w.heap.size,0,Quv 1,rfl,?_,?_,?_,rfl⟩,Qah⟩
   all_goals simp
theorem RunP.dist {N:Qap} {ls:List (List Int)} {cl:List Int} {s t:Nat} {v:Int} {hs:List (Nat×Nat)} {xs:Tri} (h:RunP N ls [toV N s,frV N t] s t v hs) (hok:Qaz N) (hP:Qbn N.vs.length ls) (hA:Qee N ls cl) (hs:N.ar[s]?=some xs):Qjx N s t v:=by
 rcases h with ⟨h1,h2,_⟩|⟨h1,h2,_⟩
 · exact .inl ⟨h1,h2⟩
 · exact .inr ⟨h1,Qtm hok hP (hA.ex hok hP) ⟨_,hs⟩ (by simp) (by simp) h2⟩
section
variable (w:World) (g o:Nat) (N:Qap) (ls:List (List Int)) (CA:Option Addr) (NC cC S:Nat) (cl:List Int)
theorem askDist_ok (s t:Nat)(xs xt:Tri)(hg:Qfv w g N)(ho:Qgy w o N.ar ls)(hc:RdI w CA NC cl)(hok:Qaz N)(hP:Qbn N.vs.length ls)(hA:Qee N ls cl)(hcc:NC≤cC∧cC≤9223372036854775807) (hSm:Qcd (Qaf N.ar ls)≤1000000000) (hxs:N.ar[s]?=some xs) (hxt:N.ar[t]?=some xt) :
 Calls prog 19 #[.pointer (some ⟨g,0,none⟩),.pointer (some ⟨o,0,none⟩),.slice CA NC cC,.int .i64 s,.int .i64 t] w fun e w'=>(∃ v,e=.returned (.tuple #[.int .i64 v,.nilIface])∧Qjx N s t v)∧Below w.heap.size w w':=by
 have hsn:=(Zs hxs).1;have htn:=(Zs hxt).1;have hNS:NC=Qcd (Qaf N.ar ls):=by rw [←hc.1,hA.1]
 have HCK:=Zh (askCheck_ok w g o N ls CA NC cC _ s t hg ho rfl hSm);rw [show askBad N.ar.length NC (Qcd (Qaf N.ar ls)) s t=none by unfold askBad;rw [if_neg (by omega),if_neg (by omega),if_neg (by omega)]] at HCK
 have HNQ:=Zh (fun V (hV:Below w.heap.size w V)=>newQuest_ok V g o N ls s t CA NC cC cl (hg.below hV) (ho.below hV) (hc.below hV) hok hP);have HRN:=Zh (fun (V:World) (qb:Nat) (Q:Option Addr) (L cq mb bb B:Nat) h hm hB hBB=>run_ok V qb g o N ls s t CA NC cC cl Q L cq mb bb N.ar.length B xs xt h hm hB hok hP hA hcc hSm hxs hxt rfl hBB);have HDP:=Zh (fun v hs (h:RunP N ls [toV N s,frV N t] s t v hs)=>h.dist hok hP hA hxs);clear hg ho hc hok hP hA hcc hSm hxs hxt hsn htn hNS
 go_enter func19,ntmps19
 go_wp2_with fail
 with_reducible refine HCK.out.mono ?_
 rintro r w1 ⟨rfl,hb1⟩;have HB1:=Zh hb1;have HQN:=Zh (HNQ.out w1 hb1);clear hb1
 go_wp2_with fail
 with_reducible refine HQN.out.mono ?_
 rintro r w2 ⟨qb,Q,cq,mb,bb,rfl,hq,hm,hB,⟨m1,m2,m3⟩,hb2⟩;have HR2:=Zh (HRN.out w2 qb Q ls.length cq mb bb w.heap.size hq hm hB ⟨Nat.le_trans HB1.out.size m1,Nat.le_trans HB1.out.size m2,m3⟩);have HB2:=Zh (Zb HB1.out hb2);clear hq hm hB m1 m2 m3 hb2
 go_wp2_with fail
 with_reducible refine HR2.out.mono ?_
 rintro r w3 ⟨⟨v,A,n,c,hs,rfl,hr,_,_,_⟩,hb3⟩;have HV:=Zh (HDP.out v hs hr);have HB3:=Zh (HB2.out.trans hb3);clear hr hb3
 go_wp2_with fail
 refine bodyPost_ret (v:=.tuple #[.int .i64 v,.nilIface]) (by simp [results,results19,go_sem]) rfl ?_;exact ⟨⟨v,rfl,HV.out⟩,HB3.out⟩
end
theorem Qqb {n:Nat} {p:Option (List Int)} {l:List Int} (h:Qej n p l=0):Qfg n l∧∀ q,p=some q→Qdq q l:=by
 unfold Qej at h
 split at h
 · cases h
 · split at h
   · assumption
   · cases h
set_option maxHeartbeats 2000000 in
set_option maxRecDepth 20000 in
theorem Qno (Q:Option Addr)(n L cq:Nat) (ls:List (List Int)) (w:World) (h:RdT w Q L ls) :
 Calls prog 113 #[.int .i64 n,.agg #[.slice Q L cq],.slice none 0 0] w fun e w'=>Qbw (Qbn n ls) e∧Below w.heap.size w w':=by
 have HT:=Zh h;clear h
 by_cases q0:(n:Int) > 4096
 · go_enter func113,ntmps113
   go_wp2_with fail
   (refine Qac ?_;intro w5 hw5)
   have hB5:Blk w5 (w.heap.size+1) 48 #[.slice none 0 0,.int .i64 0]:=by rw [hw5];exact Qbg
   have hb5:Below w.heap.size w w5:=by rw [hw5];exact Qah
   clear hw5;with_reducible refine (Qav _ _ _ _).mono ?_
   rintro e w2 ⟨⟨A4,n4,m4,rfl,hg4⟩,hb⟩;have hB2:=Blk.below hB5 hb hB5.lt;obtain ⟨c0,c1,f0,f1⟩:=hB2.two;have hb2:Below w.heap.size w w2:=Zb hb5 hb
   go_wp2_with fail
   refine bodyPost_ret (v:=.agg #[.slice A4 n4 m4,.int .i64 4]) (by simp [results,results113,go_sem,c0,c1]) rfl ?_
   first | exact ⟨Qbw.no (by decide),Qah⟩ | exact ⟨Qcq.no (Wg.mono (B:=w5.heap.size) (Wg.setCell (Wg.setCell hg4 hB5.lt _) hB5.lt _) hb5.size) (by decide),Qah⟩
 by_cases q1:(L:Int) > 6
 · go_enter func113,ntmps113
   go_wp2_with fail
   (refine Qac ?_;intro w5 hw5)
   have hB5:Blk w5 (w.heap.size+1) 48 #[.slice none 0 0,.int .i64 0]:=by rw [hw5];exact Qbg
   have hb5:Below w.heap.size w w5:=by rw [hw5];exact Qah
   clear hw5;with_reducible refine (Qav _ _ _ _).mono ?_
   rintro e w2 ⟨⟨A4,n4,m4,rfl,hg4⟩,hb⟩;have hB2:=Blk.below hB5 hb hB5.lt;obtain ⟨c0,c1,f0,f1⟩:=hB2.two;have hb2:Below w.heap.size w w2:=Zb hb5 hb
   go_wp2_with fail
   refine bodyPost_ret (v:=.agg #[.slice A4 n4 m4,.int .i64 4]) (by simp [results,results113,go_sem,c0,c1]) rfl ?_
   first | exact ⟨Qbw.no (by decide),Qah⟩ | exact ⟨Qcq.no (Wg.mono (B:=w5.heap.size) (Wg.setCell (Wg.setCell hg4 hB5.lt _) hB5.lt _) hb5.size) (by decide),Qah⟩
 by_cases q2:L=0
 · have j1:((L:Int) == 0)=true:=by simp;exact q2
   go_enter func113,ntmps113
   go_wp2_with fail
   (refine Qac ?_;intro w5 hw5)
   have hB5:Blk w5 (w.heap.size+1) 48 #[.slice none 0 0,.int .i64 0]:=by rw [hw5];exact Qbg
   have hb5:Below w.heap.size w w5:=by rw [hw5];exact Qah
   clear hw5;with_reducible refine (Qav _ _ _ _).mono ?_
   rintro e w2 ⟨⟨A4,n4,m4,rfl,hg4⟩,hb⟩;have hB2:=Blk.below hB5 hb hB5.lt;obtain ⟨c0,c1,f0,f1⟩:=hB2.two;have hb2:Below w.heap.size w w2:=Zb hb5 hb
   go_wp2_with fail
   refine bodyPost_ret (v:=.agg #[.slice A4 n4 m4,.int .i64 1]) (by simp [results,results113,go_sem,c0,c1]) rfl ?_
   first | exact ⟨Qbw.no (by decide),Qah⟩ | exact ⟨Qcq.no (Wg.mono (B:=w5.heap.size) (Wg.setCell (Wg.setCell hg4 hB5.lt _) hB5.lt _) hb5.size) (by decide),Qah⟩
 have j1:((L:Int) == 0)=false:=by simp;exact q2
 go_enter func113,ntmps113
 go_wp2_with fail
 (refine Qak ?_;intro w1 hw1)
 have hb1:Below w.heap.size w w1:=by rw [hw1];exact Qah
 have hQ:Blk w1 w.heap.size 29 #[.slice Q L cq]:=by rw [hw1];exact Qbg
 have hB:Blk w1 (w.heap.size+1) 48 #[.slice none 0 0,.int .i64 0]:=by rw [hw1];exact Qbg
 clear hw1
 go_loopw [7] (fun q W=>Below w.heap.size w W∧Blk W w.heap.size 29 #[.slice Q L cq]∧Blk W (w.heap.size+1) 48 #[.slice none 0 0,.int .i64 0]∧∃ i:Nat,i≤L∧q=.int .i64 ((i:Int)+1)∧∀ (j:Nat) (l:List Int),j<i→ls[j]?=some l→Qfg n l∧∀ q,Qff ls j=some q→Qdq q l) (fun q _=>L+1-(intOf q).toNat)
 case atStart=>exact ⟨hb1,hQ,hB,0,Nat.zero_le _,rfl,fun _ _ h=>absurd h (Nat.not_lt_zero _)⟩
 case round =>
  clear hb1 hQ hB;obtain ⟨hbl,hQ,hB,i,hi,rfl,hall⟩:=hrel;have HA:=Zh hall;clear hall;have y0:=hQ.cell 0;simp only [List.getElem?_toArray,List.getElem?_cons_zero] at y0
  by_cases hlt:i<L
  · obtain ⟨l,hl⟩:∃ l,ls[i]?=some l:=⟨_,Zg (by rw [HT.out.1];exact hlt)⟩
    have HCL:=Zh (Qlf Q n L cq i ls l wr (HT.out.below hbl) hl (by omega) (by omega) (fun j p e hp=>(HA.out j p (by omega) hp).1.len));have HLL:=Zh hl;have HI:=Zh (@Qqb n (Qff ls i) l);have i1:(i:Int)+1≤(L:Int):=by omega
    clear hl;generalize Qej n (Qff ls i) l=code at *
    go_wp2_with fail
    with_reducible refine HCL.out.mono ?_
    rintro e w2 ⟨rfl,hb2⟩;have hQ2:=hQ.below hb2 hQ.lt;have hB2:=hB.below hb2 hB.lt;have hbw2:=Zb hbl hb2;clear hQ hB y0 HCL hb2
    by_cases hc:code=0
    · subst hc
      have HO:=Zh (HI.out rfl);clear HI
      go_wp2_with fail
      go_roundw
      case rel=>exact ⟨hbw2,hQ2,hB2,i+1,by omega,by go_num,fun j l' hj hl'=>by
       by_cases e:j=i
       · subst e
         rw [HLL.out] at hl'
         cases hl'
         exact HO.out
       · exact HA.out j l' (by omega) hl'⟩
      case measure=>simp [intOf];omega
    · have e1:(code == 0)=false:=by simpa using hc
      have e2:(code != 0)=true:=by simpa using hc
      have HC:=Zh hc;clear hc
      go_wp2_with fail
      with_reducible refine (Qav _ _ _ _).mono ?_
      rintro e w3 ⟨⟨A4,n4,m4,rfl,hg4⟩,hb3⟩;have hB3:=hB2.below hb3 hB2.lt;obtain ⟨c0,c1,f0,f1⟩:=hB3.two;have hbw3:=Zb hbw2 hb3
      go_wp2_with fail
      refine bodyPost_ret (v:=.agg #[.slice A4 n4 m4,.int .i64 code]) (by simp [results,results113,go_sem,c0,c1]) rfl ?_;exact ⟨Qbw.no HC.out,Qah⟩
  · obtain rfl:L=i:=by omega
    obtain ⟨c0,c1,f0,f1⟩:=hB.two;have zB:=hB.lt
    have HP:=Zh (show Qbn n ls from ⟨by rw [HT.out.1];omega,by rw [HT.out.1];omega,fun l hl=>by
     obtain ⟨j,hj⟩:=List.getElem?_of_mem hl;exact (HA.out j l (by rw [←HT.out.1];exact (Zs hj).1) hj).1,fun j p l hp hl=>(HA.out (j+1) l (by rw [←HT.out.1];exact (Zs hl).1) hl).2 p (by rw [Qgs];exact hp)⟩)
    clear HA
    go_wp2_with fail
    refine bodyPost_ret (v:=.agg #[.slice none 0 0,.int .i64 0]) (by simp [results,results113,go_sem,c0,c1]) rfl ?_;exact ⟨⟨_,_,_,_,rfl,.inl ⟨rfl,HP.out⟩⟩,Qah⟩
structure FewP (ls:List (List Int)):Prop where
 l:ls.length≤10
 r:∀ l∈ls,l.length≤60
set_option maxHeartbeats 1000000 in
theorem fewP_any (Q:Option Addr)(L cq:Nat) (ls:List (List Int)) (w:World) (h:RdT w Q L ls) (hL:L≤9223372036854775807) :
 Calls prog 112 #[.agg #[.slice Q L cq]] w fun e w'=>Qie (FewP ls) e∧Below w.heap.size w w':=by
 have HT:=Zh h;have HLE:=Zh h.1;clear h
 go_enter func112,ntmps112
 go_wp2_with fail
 (refine Qak ?_;intro w1 hw1)
 have hb1:Below w.heap.size w w1:=by rw [hw1];exact Qah
 have hQ:Blk w1 w.heap.size 29 #[.slice Q L cq]:=by rw [hw1];exact Qbg
 have H1:=Zh (HT.out.below hb1);clear hw1;have y0:=hQ.cell 0;simp only [List.getElem?_toArray,List.getElem?_cons_zero] at y0
 go_loop [3] (fun q=>∃ i:Nat,i≤L∧q=.int .i64 i∧∀ j l,j<i→ls[j]?=some l→l.length≤60) (fun q=>L-(intOf q).toNat)
 case atStart=>exact ⟨0,Nat.zero_le _,rfl,fun _ _ h=>absurd h (Nat.not_lt_zero _)⟩
 case round =>
  obtain ⟨i,hi,rfl,hall⟩:=hrel;have HA:=Zh hall;clear hall
  by_cases hlt:i<L
  · obtain ⟨b,o,A,n,c,l,rfl,hl,hc,hr,q1,q2⟩:=H1.out.at_ hlt
    have i1:(0:Int)≤(i:Int):=by omega
    have i2:(i:Int)<(L:Int):=by omega
    have HLL:=Zh hl;have HR:=Zh hr.1;clear hl hr
    by_cases q3:(n:Int) > 60
    · go_wp2_with fail
      go_ret
      exact ⟨⟨false,rfl,fun h=>by cases h⟩,hb1⟩
    · go_wp2_with fail
      go_round
      case rel=>exact ⟨i+1,by omega,by go_num,fun j l' hj hl'=>by
       by_cases e:j=i
       · subst e
         rw [HLL.out] at hl'
         cases hl'
         rw [HR.out];omega
       · exact HA.out j l' (by omega) hl'⟩
      case measure=>simp [intOf];omega
  · obtain rfl:L=i:=by omega
    go_wp2_with fail
    go_ret
    refine ⟨⟨_,rfl,fun h=>⟨by rw [HLE.out];have:=of_decide_eq_true h;omega,fun l hl=>?_⟩⟩,hb1⟩;obtain ⟨j,hj⟩:=List.getElem?_of_mem hl;exact HA.out j l (by rw [←HLE.out];exact (Zs hj).1) hj
set_option maxHeartbeats 1000000 in
theorem Qwr (Q:Option Addr)(n L cq:Nat) (ls:List (List Int)) (w:World) (h:RdT w Q L ls) (hL:L≤9223372036854775807) :
 Calls prog 58 #[.int .i64 n,.agg #[.slice Q L cq]] w fun e w'=>Qie (FewP ls∧n≤60∧Qbn n ls) e∧Below w.heap.size w w':=by
 have HT:=Zh h;clear h
 go_enter func58,ntmps58
 go_wp2_with fail
 (refine Qac ?_;intro w1 hw1)
 have hb1:Below w.heap.size w w1:=by rw [hw1];exact Qah
 have hQ:Blk w1 w.heap.size 29 #[.slice Q L cq]:=by rw [hw1];exact Qbg
 clear hw1;with_reducible refine (fewP_any Q L cq ls w1 (HT.out.below hb1) hL).mono ?_
 rintro e w2 ⟨⟨bb,rfl,hf⟩,hb2⟩;have hbw2:=Zb hb1 hb2;have y0:=(hQ.below hb2 hQ.lt).cell 0;simp only [List.getElem?_toArray,List.getElem?_cons_zero] at y0;clear hQ hb2
 cases bb
 · go_wp2_with fail
   go_ret
   exact ⟨⟨false,rfl,fun h=>by cases h⟩,hbw2⟩
 have HF:=Zh (hf rfl);clear hf
 by_cases q0:(n:Int)≤60
 rotate_left
 · go_wp2_with fail
   go_ret
   exact ⟨⟨false,rfl,fun h=>by cases h⟩,hbw2⟩
 go_wp2_with fail
 with_reducible refine (Qno Q n L cq ls w2 (HT.out.below hbw2)).mono ?_
 rintro e w3 ⟨⟨A4,k4,c4,x,rfl,hx⟩,hb3⟩;have hbw3:=Zb hbw2 hb3;have hfe:=Qrs A4 k4 c4 x w3;clear y0
 rcases hx with ⟨rfl,hG⟩|hx
 · have HG:=Zh hG
   clear hG
   go_wp2_with fail
   go_ret
   exact ⟨⟨true,rfl,fun _=>⟨HF.out,by omega,HG.out⟩⟩,hbw3⟩
 · go_wp2_with fail
   go_ret
   exact ⟨⟨_,rfl,fun h=>absurd (by simpa using h) hx⟩,hbw3⟩
structure MayOk (N:Qap) (ls:List (List Int)):Prop where
 small:Qvk N
 few:FewP ls
 part:Qbn N.vs.length ls
set_option maxHeartbeats 1000000 in
theorem Qxp (A B C Q:Option Addr)(n m k c d e L cq:Nat)(N:Qap) (ls:List (List Int)) (w:World) (h:Qcj w A B C n m k N) (hk:k≤9223372036854775807) (hq:RdT w Q L ls) (hL:L≤9223372036854775807) :
 Calls prog 16 #[.agg #[.slice A n c,.slice B m d,.slice C k e],.agg #[.slice Q L cq]] w fun e w'=>Qie (MayOk N ls) e∧Below w.heap.size w w':=by
 have HH:=Zh h;have HT:=Zh hq;have HLV:=Zh h.1.1;clear h hq
 go_enter func16,ntmps16
 go_wp2_with fail
 (refine Qac ?_;intro w1 hw1)
 have hb1:Below w.heap.size w w1:=by rw [hw1];exact Qah
 have hN:Blk w1 w.heap.size 26 #[.slice A n c,.slice B m d,.slice C k e]:=by rw [hw1];exact Qbg
 have hQ:Blk w1 (w.heap.size+1) 29 #[.slice Q L cq]:=by rw [hw1];exact Qbg
 clear hw1;with_reducible refine (Qwd A B C n m k c d e N w1 (HH.out.below hb1) hk).mono ?_
 rintro r w2 ⟨⟨bb,rfl,hf⟩,hb2⟩;have hbw2:=Zb hb1 hb2;have y0:=(hQ.below hb2 hQ.lt).cell 0;simp only [List.getElem?_toArray,List.getElem?_cons_zero] at y0;obtain ⟨n0,n1,n2⟩:=(hN.below hb2 hN.lt).three;clear hQ hb2 hN
 cases bb
 · go_wp2_with fail
   go_ret
   exact ⟨⟨false,rfl,fun h=>by cases h⟩,hbw2⟩
 have HF:=Zh (hf rfl);clear hf
 go_wp2_with fail
 with_reducible refine (Qwr Q n L cq ls w2 (HT.out.below hbw2) hL).mono ?_
 rintro r w3 ⟨⟨bb,rfl,hf⟩,hb3⟩;have HF2:=Zh hf;have hbw3:=Zb hbw2 hb3;clear hf
 go_wp2_with fail
 go_ret
 exact ⟨⟨bb,rfl,fun h=>⟨HF.out,(HF2.out h).1,by rw [HLV.out];exact (HF2.out h).2.2⟩⟩,hbw3⟩
theorem Qrt {N:Qap} {ls:List (List Int)} (h:MayOk N ls):Qcd (Qaf N.ar ls)≤1000000000:=by
 have hA:=h.small.a;have hv:=h.small.v;have h6:=h.part.l6
 have hx:∀ x∈(Qaf N.ar ls).map Qdp,x≤194400:=fun z hz=>by
  obtain ⟨row,hr,rfl⟩:=List.mem_map.1 hz;obtain ⟨l,hl,rfl⟩:=List.mem_map.1 hr
  have hm:∀ y∈(Qae N.ar l).map szG,y≤8100:=fun y hy=>by
   obtain ⟨x,hx,rfl⟩:=List.mem_map.1 hy;obtain ⟨c,hc⟩:=List.getElem?_of_mem hx;have g:=Qbp hc;unfold szG;have:=Nat.mul_le_mul (show x.1.length≤90 by omega) (show x.2.length≤90 by omega)
   omega
  have h1:=Qsw hm;have h2:=h.part.lvl l hl;have h3:=Qby (l:=l) (n:=(N.vs.length:Int)) (fun x hx=>h2.hi x hx) (by omega);rw [List.length_map,Qas] at h1;have h4:(Qaq l).toNat*8100≤24*8100:=Nat.mul_le_mul_right _ (by omega);unfold Qdp;omega
 have h1:=Qsw hx;rw [List.length_map,show (Qaf N.ar ls).length=ls.length by simp [Qaf]] at h1
 have h4:ls.length*194400≤6*194400:=Nat.mul_le_mul_right _ (by omega);unfold Qcd;omega
end Go.Proofs.YteaoiabikjnkeaaGreatDoor
namespace Go.Proofs.YteaoiabikjnkeaaGreatDoor
open Go.RowKit Go.Extern.Stop Go.Stop Go.Extern Go.Proofs.Tryz
attribute [local go_sem ↓] Go.wp_at_zero Go.wp_at_succ
theorem Rch.join {St:Qbx}{s p q:Nat}{c d:Int}(h:Rch St s p c)(g:Rch St p q d):Rch St s q (c+d):=by
 induction g with
 | start=>rw [Int.add_zero];exact h
 | step _ h2 ih =>
  rw [←Int.add_assoc];exact ih.step h2
theorem Qjx.tri {N:Qap}{a b c:Nat}{x y z:Int}(hok:Qaz N)(h1:Qjx N a b x)(h2:Qjx N b c y)(h3:Qjx N a c z):z≤Qet x y:=by
 have b1:=h1.bd hok;have b2:=h2.bd hok;have b3:=h3.bd hok
 by_cases e:x=1152921504606846976∨y=1152921504606846976
 · unfold Qet
   split <;> omega
 · have e1:x≠1152921504606846976:=fun h=>e (.inl h)
   have e2:y≠1152921504606846976:=fun h=>e (.inr h)
   have r1:Rch (StW N) a b x:=by
    rcases h1 with ⟨_,h⟩|⟨_,⟨h,_⟩|⟨h,_⟩⟩
    · exact absurd h e1
    · exact h
    · exact absurd h e1
   have r2:Rch (StW N) b c y:=by
    rcases h2 with ⟨_,h⟩|⟨_,⟨h,_⟩|⟨h,_⟩⟩
    · exact absurd h e2
    · exact h
    · exact absurd h e2
   have r3:=r1.join r2
   have hw:wV N a≠1152921504606846976:=by
    rcases h1 with ⟨_,h⟩|⟨h,_⟩
    · exact absurd h e1
    · exact h
   have hz:z≤x+y:=by
    rcases h3 with ⟨h,_⟩|⟨_,⟨_,h⟩|⟨_,h⟩⟩
    · exact absurd h hw
    · exact h _ r3
    · exact absurd r3 (h _)
   unfold Qet
   split <;> omega
def eachL (m:Nat)(ul:List Int):List Int:=ul.map (fun a=>a % (m:Int))
theorem eachL_get {m i:Nat}{ul:List Int}{a:Int} (h:ul[i]?=some a):(eachL m ul)[i]?=some (a % (m:Int)):=by
 unfold eachL;rw [List.getElem?_map,h]
 rfl
theorem eachL_in {m:Nat}{ul:List Int}(hm:0<m)(i:Nat)(x:Int) (h:(eachL m ul)[i]?=some x):0≤x∧x<(m:Int):=by
 unfold eachL at h;rw [List.getElem?_map] at h
 cases hu:ul[i]? with
 | none=>rw [hu] at h;cases h
 | some a =>
  rw [hu] at h
  cases h
  exact ⟨Int.emod_nonneg _ (by omega),Int.emod_lt_of_pos _ (by omega)⟩
theorem eachL_succ {m i:Nat}{ul:List Int}{a:Int} (h:ul[i]?=some a):(eachL m ul).take (i+1)=(eachL m ul).take i ++[a % (m:Int)]:=by
 rw [List.take_add_one,eachL_get h]
 rfl
set_option maxRecDepth 20000 in
set_option maxHeartbeats 4000000 in
theorem manyEach_walk (A B C Q:Option Addr)(n m k c d e L cq:Nat)(N:Qap) (ls:List (List Int)) (UA:Option Addr) (nu cu:Nat) (ul:List Int) (w:World) (h:Qcj w A B C n m k N) (hk:k≤9223372036854775807) (hq:RdT w Q L ls) (hL:L≤9223372036854775807) (hu:RdK .u16 w UA nu ul) (_:nu≤4000000000000000000) (hub:∀ a∈ul,0≤a∧a≤65535) (hg:w.cell? ⟨0,0,none⟩=some Qne) :
 Calls prog 10 #[.agg #[.slice A n c,.slice B m d,.slice C k e],.agg #[.slice Q L cq],.slice UA nu cu] w fun r w'=>r=.returned (.bool true)∧Below w.heap.size w w':=by
 have HUL:=Zh hu;have HUB:=Zh hub;clear hu hub;have HH:=Zh h;have HT:=Zh hq;have HG:=Zh hg;have HNA:=Zh (show N.ar.length=m from h.2.1.1)
 have HNV:=Zh (show N.vs.length=n from h.1.1)
 clear h hq hg
 go_enter func10,ntmps10
 go_wp2_with fail
 (refine Qac ?_;intro w1 hw1)
 have hb1:Below w.heap.size w w1:=by rw [hw1];exact Qah
 have hX:Blk w1 w.heap.size 26 #[.slice A n c,.slice B m d,.slice C k e]:=by rw [hw1];exact Qbg
 have hY:Blk w1 (w.heap.size+1) 29 #[.slice Q L cq]:=by rw [hw1];exact Qbg
 clear hw1;with_reducible refine (Qlm w1 (Zc hb1 (Zn _) HG.out)).mono ?_
 rintro r w2 ⟨rfl,hb2⟩;have hq2:=hb2;have hX2:=hX.below hb2 hX.lt;have hY2:=hY.below hb2 hY.lt;have hb2':=Zb hb1 hb2;clear hX hY hb1 hb2;obtain ⟨x0,x1,x2⟩:=hX2.three;have y0:=hY2.cell 0;simp only [List.getElem?_toArray,List.getElem?_cons_zero] at y0
 go_wp2_with fail
 with_reducible refine (Qxp A B C Q n m k c d e L cq N ls w2 (HH.out.below hb2') hk (HT.out.below hb2') hL).mono ?_
 rintro r w3 ⟨hr,hb3⟩;have hb3':=Zb hb2' hb3;have hq3:=Zb hq2 hb3;have hX3:=hX2.below hb3 hX2.lt;have hY3:=hY2.below hb3 hY2.lt;clear x0 x1 x2 y0 hX2 hY2 hb2' hb3 hq2;obtain ⟨b,rfl,hGG⟩:=hr
 cases b with
 | false =>
  clear hGG
  go_wp2_with fail
  go_ret
  exact ⟨rfl,hb3'⟩
 | true =>
 have hmay:=hGG rfl;clear hGG;have HMAY:=Zh hmay;have hok:=hmay.small.ok;clear hmay;obtain ⟨x0,x1,x2⟩:=hX3.three;have y0:=hY3.cell 0;simp only [List.getElem?_toArray,List.getElem?_cons_zero] at y0
 by_cases hm0:m=0
 · have i0:((m:Int) == 0)=true:=by simp [hm0]
   clear hm0
   go_wp2_with fail
   go_ret
   exact ⟨rfl,hb3'⟩
 have i0:((m:Int) == 0)=false:=by simp;omega
 by_cases h8:8<nu
 · have i8:(8:Int)<(nu:Int):=by omega
   go_wp2_with fail
   go_ret
   exact ⟨rfl,hb3'⟩
 have i8:¬(8:Int)<(nu:Int):=by omega
 go_wp2_with fail
 with_reducible refine (Qnj A B C Q n m k c d e L cq N ls w3 (HH.out.below hb3') hok (HT.out.below hb3') HMAY.out.part (Qrt HMAY.out)).mono ?_
 unfold Qpb;rintro r w5 ⟨⟨g,o,CB,NC,cl,F,rfl,hNCe,hG5,hF5,hO5,hC5,hA5⟩,hb5⟩;have HNC:=Zh hNCe;have HB5:=Zh (Zb hb3' hb5);have HQ5:=Zh (Zb hq3 hb5);have HX5:=Zh (hX3.below hb5 hX3.lt);have HY5:=Zh (hY3.below hb5 hY3.lt);have HG5:=Zh hG5.rd;have HO5:=Zh (hO5.le (Qba _ _));have HC5:=Zh (show RdI w5 (some ⟨CB,0,none⟩) NC cl from ⟨hC5.1,fun i x hx=>by obtain ⟨b,o,e,h1⟩:=hC5.2 i x hx;exact ⟨b,o,e,Qba _ _ _ _ h1⟩⟩)
 have HALL:=Zh hA5;clear x0 x1 x2 y0 hX3 hY3 hb5 hb3' hNCe hG5 hF5 hO5 hC5 hA5 hq3;obtain ⟨x0,x1,x2⟩:=HX5.out.three;have y0:=HY5.out.cell 0;simp only [List.getElem?_toArray,List.getElem?_cons_zero] at y0;have hS9:=Qrt HMAY.out;have hNC9:NC≤1000000000:=by rw [HNC.out];exact hS9
 have HU5:=Zh (HUL.out.below HB5.out);have hmp:0<m:=by omega
 have hm4:m≤16384:=by rw [←HNA.out];exact hok.la
 have hOK:=Zh hok;obtain ⟨sl,hsl⟩:∃ sl,sl=eachL m ul:=⟨_,rfl⟩;have HSL:=Zh hsl;have HSI:=Zh (show ∀ (i:Nat) (x:Int),sl[i]?=some x→0≤x∧x<(m:Int) from by rw [hsl];exact eachL_in hmp)
 have HSN:=Zh (show sl.length=nu by rw [hsl];unfold eachL;rw [List.length_map];exact HUL.out.1)
 have hmz:¬m=0:=by omega
 clear hsl hm0 h8
 go_wp2_with fail
 go_loopw [11,12] (fun z q W=>∃ (i:Nat) (A9:Option Addr) (c9:Nat),i≤nu∧q=.int .i64 i∧z=.slice A9 i c9∧Own W w5.heap.size 3 1 A9 i c9 (Qag (sl.take i))∧Below w5.heap.size w5 W) (fun _ q _=>nu-(intOf q).toNat)
 case atStart=>exact ⟨0,none,0,Nat.zero_le _,rfl,rfl,Own.nil _ _ _ _,Zr _ _⟩
 case round =>
  obtain ⟨i,A9,c9,hi,rfl,rfl,hown,hbl⟩:=hrel;have HO:=Zh hown;have HBL:=Zh hbl;clear hown hbl
  by_cases hlt:i<nu
  · obtain ⟨ub,uo,a,hUA,ha,ca0⟩:=HU5.out.at_ hlt
    have hab:=HUB.out a (Zm ha);obtain ⟨an,rfl⟩:∃ an:Nat,a=(an:Int):=⟨a.toNat,by omega⟩;have ca:=Zc HBL.out (Zn _) ca0;have xx1:=(HX5.out.below HBL.out HX5.out.lt).three.2.1;obtain ⟨r,hr⟩:∃ r,r=an % m:=⟨_,rfl⟩;have m0:Int.tmod (an:Int) (m:Int)=(r:Int):=by rw [hr];exact (Int.ofNat_tmod an m).symm
    have m1:(an:Int) % (m:Int)=(r:Int):=by rw [hr];rfl
    have wa:IntKind.i64.wrap (an:Int)=(an:Int):=IntWalk.i64_in _ (by omega);have HTK:=Zh (show sl.take (i+1)=sl.take i ++[(r:Int)] by rw [HSL.out,eachL_succ ha,m1])
    have HSX:=Zh (show ∀ V,Below w5.heap.size w5 V→V.cell? ⟨ub,uo+i,none⟩=some (.int .u16 (an:Int))∧V.cell? ⟨w.heap.size,1,none⟩=some (.slice B m d) from fun V hV=>⟨Zc hV (Zn _) ca0,(HX5.out.below hV HX5.out.lt).three.2.1⟩)
    obtain ⟨W2,hW2⟩:∃ W2,W2=(wr.alloc (.cells #[.int .i64 (r:Int)] 3)).drew:=⟨_,rfl⟩;have hb2:Below wr.heap.size wr W2:=by rw [hW2];exact Qah
    have hrd:Rds W2 1 (some ⟨wr.heap.size,0,none⟩) 1 (Qag [(r:Int)]):=by rw [hW2];exact (Blk.new wr 3 #[.int .i64 (r:Int)]).drew.rds rfl
    have hown:=HO.out.below hb2;have hsz:w5.heap.size≤W2.heap.size:=Nat.le_trans HBL.out.size hb2.size;have HW2:=Zh hW2;have HB2:=Zh (Zb HBL.out hb2);have i1:(i:Int)<(nu:Int):=by omega
    have i2:(0:Int)≤(i:Int):=by omega
    subst hUA;clear hW2 hb2 ha ca0 hr ca xx1
    go_wp2_with fail
    refine wp_region_held_drew (S:=fun V=>Below w5.heap.size w5 V) (by kernel_rfl) HBL.out.drew (fun _=>?_);refine tz 0 56 ?_;refine tz 1 57 ?_;refine tz 2 58 ?_;refine tz 3 59 ?_;refine tz 4 60 ?_;refine tz 5 61 ?_;refine tz 6 62 ?_;refine tz 7 63 ?_;refine tz 8 64 ?_;refine tz 9 65 ?_;refine Zk 10 (fun K hK=>?_);go_simp;rw [←HW2.out];refine hK.out _ _ HB2.out (fun _=>?_);clear hK K;refine Zk 11 (fun K hK=>?_);with_reducible refine Qal (some 67) rfl rfl (.tmp 56) (.tmp 66) 67 rfl 3 _ 1 8 Qbc underlying67 rfl (by omega) rfl rfl hown hrd (Qai _) (by omega) (by omega) hsz ?_
    intro A3 c3 w8 ho8 hg8 hat8;have hb8:=Bel.grownOwn HB2.out hg8 hown hsz;refine hK.out _ _ hb8 (fun _=>?_);clear hK K;simp only [Act.put,List.setIfInBounds_toArray,List.set_cons_zero,List.set_cons_succ];refine tz 12 11 ?_;refine Zd ?_;have HO8:=Zh (show Own w8 w5.heap.size 3 1 A3 (i+1) c3 (Qag (sl.take (i+1))) by rw [HTK.out,Qbv];exact ho8)
    have HB8:=Zh hb8;clear hown hrd hsz ho8 hg8 hb8 hat8 HSX
    go_wp2_with fail
    go_roundw
    case rel=>exact ⟨i+1,A3,c3,by omega,by go_num,rfl,HO8.out,HB8.out⟩
    case measure=>simp [intOf];omega
  obtain rfl:nu=i:=by omega
  have i1:¬(nu:Int)<(nu:Int):=by omega
  have HTS:=Zh (show Qlz nu nu NC NC N.ar.length sl sl=none from by
   have hb:Qdc N.ar.length sl=none:=Qhw (fun i x hx=>by rw [HNA.out];exact HSI.out i x hx);unfold Qlz;rw [if_neg (by omega),if_neg (by omega),if_neg (by simp),hb]
   rfl)
  have HRS:=Zh (show ∀ sn:Nat,sn<m→Qcs nu NC NC N.ar.length (sn:Int) sl=none from fun sn hsn=>by
   have hb:Qdc N.ar.length sl=none:=Qhw (fun i x hx=>by rw [HNA.out];exact HSI.out i x hx);unfold Qcs;rw [if_neg (by omega),if_neg (by simp),if_neg (by rw [HNA.out];omega),hb]
   rfl)
  have HSR:=Zh (show RdI wr A9 nu sl from by
   have h:=HO.out.rds.rdI;rw [List.take_of_length_le (by rw [HSN.out];exact Zn _)] at h;exact h)
  have HT:=Zh (Qis wr g o N ls (some ⟨CB,0,none⟩) NC NC NC cl A9 A9 nu c9 nu c9 sl sl (HG5.out.below HBL.out) (HO5.out.below HBL.out) (HC5.out.below HBL.out) HSR.out HSR.out hok HMAY.out.part HNC.out (fun _=>HALL.out) ⟨Zn _,by omega⟩ hNC9);rw [HTS.out] at HT;have HR:=Zh (fun V (hV:Below wr.heap.size wr V) (s:Int)=>Qfu V g o N ls (some ⟨CB,0,none⟩) NC NC NC cl A9 nu c9 sl s (HG5.out.below (Zb HBL.out hV)) (HO5.out.below (Zb HBL.out hV)) (HC5.out.below (Zb HBL.out hV)) (HSR.out.below hV) hok HMAY.out.part HNC.out (fun _=>HALL.out) ⟨Zn _,by omega⟩ hNC9);have HD:=Zh (fun V (hV:Below wr.heap.size wr V) (s t:Nat) (xs xt:Tri) (hxs:N.ar[s]?=some xs) (hxt:N.ar[t]?=some xt)=>askDist_ok V g o N ls (some ⟨CB,0,none⟩) NC NC cl s t xs xt (HG5.out.below (Zb HBL.out hV)) (HO5.out.below (Zb HBL.out hV)) (HC5.out.below (Zb HBL.out hV)) hok HMAY.out.part HALL.out ⟨Zn _,by omega⟩ hS9 hxs hxt);have HBr:=Zh (Zb HB5.out HBL.out);have e0:((nu:Int) != (nu:Int))=false:=by simp
  clear hi hlt HO
  go_wp2_with fail
  with_reducible refine HT.out.mono ?_
  unfold Qoc;rintro r w7 ⟨⟨A7,rows,rfl,hrt,hrr⟩,hb7⟩;have HB7:=Zh hb7;have HS7:=Zh (HSR.out.below hb7)
  have HTB:=Zh (show ∀ i,i<nu→∃ tb to Bi ci row sn xs,A7=some ⟨tb,to,none⟩∧w7.cell? ⟨tb,to+i,none⟩=some (.slice Bi nu ci)∧RdI w7 Bi nu row∧sl[i]?=some ((sn:Nat):Int)∧sn<m∧Qgm N sn sl row∧N.ar[sn]?=some xs from fun i hi=>by
   obtain ⟨tb,to,Bi,ni,ci,row,h1,h2,h3,h4,_,_⟩:=hrt.at_ hi;obtain ⟨x,hx⟩:∃ x,sl[i]?=some x:=⟨_,Zg (by rw [HSN.out];exact hi)⟩;have hx2:=HSI.out i x hx;obtain ⟨row',h5,h6⟩:=hrr i x hx;rw [h2] at h5
   cases h5
   have h7:ni=nu:=by rw [←h4.1,h6.1,HSN.out]
   subst h7;obtain ⟨sn,rfl⟩:∃ sn:Nat,x=(sn:Int):=⟨x.toNat,by omega⟩;exact ⟨tb,to,Bi,ci,row,sn,_,h1,h3,h4,hx,by omega,h6,Zg (by rw [HNA.out];omega)⟩)
  have HBD:=Zh (show ∀ (sn:Nat) (row:List Int),Qgm N sn sl row→∀ (j:Nat) (v:Int),row[j]?=some v→0≤v∧v≤1152921504606846976 from fun sn row h=>h.bd hok (fun i t ht=>⟨t.toNat,by have:=HSI.out i t ht;omega⟩))
  have HUQ:=Zh (show ∀ (sn:Nat) (r1 r2:List Int),Qgm N sn sl r1→Qgm N sn sl r2→r1=r2 from fun sn r1 r2 h1 h2=>h1.uniq h2 (fun i t ht=>⟨t.toNat,by have:=HSI.out i t ht;omega⟩))
  clear hb7 hrt hrr HT HTS
  go_wp2_with fail
  go_loopw [15] (fun q W=>∃ i:Nat,i≤nu∧q=.int .i64 i∧Below w7.heap.size w7 W) (fun q _=>nu-(intOf q).toNat)
  case atStart=>exact ⟨0,Nat.zero_le _,rfl,Zr _ _⟩
  case round =>
   obtain ⟨i,hi,rfl,hb⟩:=hrel
   by_cases hlt:i<nu
   · obtain ⟨tb,to,Bi,ci,row,sn,xs,hTA,ct,_⟩:=HTB.out i hlt
     have ct1:=Zc hb (Zn _) ct;have HBx:=Zh hb;have i3:(i:Int)<(nu:Int):=by omega
     have i4:(0:Int)≤(i:Int):=by omega
     subst hTA;clear hb ct
     go_wp2_with fail
     go_roundw
     case rel=>exact ⟨i+1,by omega,by go_num,HBx.out⟩
     case measure=>simp [intOf];omega
   obtain rfl:nu=i:=by omega
   have HBx:=Zh hb;clear hb hi hlt
   go_wp2_with fail
   go_loopw [16] (fun q W=>∃ i:Nat,i≤nu∧q=.int .i64 i∧Below w7.heap.size w7 W) (fun q _=>nu-(intOf q).toNat)
   case atStart=>exact ⟨0,Nat.zero_le _,rfl,HBx.out⟩
   case round =>
    obtain ⟨i,hi,rfl,hb⟩:=hrel
    by_cases hlt:i<nu
    rotate_left
    · obtain rfl:nu=i:=by omega
      have HBx:=Zh hb;clear hb hi hlt
      go_wp2_with fail
      go_ret
      exact ⟨rfl,Zb HBr.out (Zb HB7.out HBx.out)⟩
    obtain ⟨tb,to,Bi,ci,row,sn,xs,hTA,ct,hrd,hsn,hsm,hD,hxs⟩:=HTB.out i hlt;obtain ⟨sb,so,x,hSA,hx,cs⟩:=HS7.out.at_ hlt;rw [hsn] at hx
    cases hx
    have HRo:=HR.out wr (Zb HB7.out hb) (sn:Int);rw [HRS.out sn hsm] at HRo;have HRO:=Zh HRo;have HBi:=Zh hb;have HCT:=Zh ct;have HRD:=Zh hrd;have HDI:=Zh hD;have HXS:=Zh hxs;have HSN_:=Zh hsn;have HCS:=Zh cs;have cs1:=Zc hb (Zn _) cs;have i3:(i:Int)<(nu:Int):=by omega
    have i4:(0:Int)≤(i:Int):=by omega
    subst hTA;subst hSA;clear hb ct hrd hD hxs hsn cs HRo
    go_wp2_with fail
    with_reducible refine HRO.out.mono ?_
    unfold Qlg;rintro r w8 ⟨⟨rb,row2,rfl,hrb,hd2,_⟩,hb8⟩;obtain rfl:=HUQ.out sn row row2 HDI.out hd2;have hb78:=Zb HBi.out hb8;have HSC:=Zh (Qez (some ⟨rb,0,none⟩) Bi nu nu nu ci row row w8 (hrb.rdI (by rw [hd2.1,HSN.out])) (HRD.out.below hb78) (by omega) (by omega));rw [decide_eq_true rfl] at HSC;have HB8:=Zh hb78;have ct1:=Zc hb78 (Zn _) HCT.out;clear hrb hd2 hb8 hb78 cs1
    go_wp2_with fail
    with_reducible refine HSC.out.mono ?_
    rintro r w9 ⟨rfl,hk9⟩
    have hb9:Below w8.heap.size w8 w9:=by
     obtain ⟨k9,rfl⟩:=hk9;exact Qbb (Zr _ _) k9
    have HB9:=Zh (Zb HB8.out hb9);clear hk9 hb9 HSC ct1
    go_wp2_with fail
    go_loopw [19] (fun q W=>∃ kx:Nat,kx≤nu∧q=.int .i64 kx∧Below w7.heap.size w7 W) (fun q _=>nu-(intOf q).toNat)
    case atStart=>exact ⟨0,Nat.zero_le _,rfl,HB9.out⟩
    case round =>
     obtain ⟨kx,hkx,rfl,hb⟩:=hrel;have HBk:=Zh hb
     by_cases hlk:kx<nu
     rotate_left
     · obtain rfl:nu=kx:=by omega
       have i5:¬(nu:Int)<(nu:Int):=by omega
       clear hb hkx hlk
       go_wp2_with fail
       go_roundw
       case rel=>exact ⟨i+1,by omega,by go_num,HBk.out⟩
       case measure=>simp [intOf];omega
     obtain ⟨_,_,Bk,ck,rowk,tn,xt,hTA,ctk,hrdk,htn,htm,hDk,hxt⟩:=HTB.out kx hlk
     cases hTA
     obtain ⟨_,_,x,hSA,hx,csk⟩:=HS7.out.at_ hlk
     cases hSA
     rw [htn] at hx
     cases hx
     obtain ⟨b1,o1,z,hBi,hz,cz⟩:=HRD.out.at_ hlk;subst hBi;obtain ⟨z',hz',hdz⟩:=HDI.out.2 kx tn htn;rw [hz] at hz'
     cases hz'
     have HZ:=Zh hz;have HDZ:=Zh hdz;have hzb:=HBD.out sn row HDI.out kx z hz;have HDS:=Zh (HD.out wr.drew (Zb HB7.out (Zb hb (Zr _ _).drew)) sn tn xs xt HXS.out hxt);have HSX:=Zh (show ∀ V,Below wr.heap.size wr V→V.cell? ⟨sb,so+i,none⟩=some (.int .i64 (sn:Int))∧V.cell? ⟨sb,so+kx,none⟩=some (.int .i64 (tn:Int)) from fun V hV=>⟨Zc (Zb hb hV) (Zn _) HCS.out,Zc (Zb hb hV) (Zn _) csk⟩)
     have HCZ:=Zh cz;have HTN:=Zh htn;have i5:(kx:Int)<(nu:Int):=by omega
     have i6:(0:Int)≤(kx:Int):=by omega
     clear hb ctk hrdk htn htm hDk hxt csk hz hdz cz
     go_wp2_with fail
     refine wp_region_held_drew (S:=fun V=>Below wr.heap.size wr V) (by kernel_rfl) (Zr _ _).drew (fun _=>?_);refine tz 0 136 ?_;refine tz 1 137 ?_;refine tz 2 138 ?_;refine tz 3 139 ?_;refine tz 4 140 ?_;refine tz 5 141 ?_;refine tz 6 142 ?_;refine tz 7 143 ?_;refine tz 8 144 ?_;refine tz 9 145 ?_;refine tz 10 146 ?_;refine Zk 11 (fun K hK=>?_);go_simp;with_reducible refine HDS.out.mono ?_
     rintro r wx ⟨⟨v,rfl,hv⟩,hbx0⟩;have hbx:Below wr.heap.size wr wx:=(Zr _ _).drew.trans hbx0;obtain rfl:=HDZ.out.uniq hv;go_simp;refine hK.out _ _ hbx (fun _=>?_);clear hK K hbx0 hv;refine tz 12 135 ?_;refine tz 13 148 ?_;refine tz 14 149 ?_;refine tz 15 20 ?_;refine tz 16 21 ?_;refine Zd ?_;have HBX:=Zh (Zb HBk.out hbx);have cz1:=Zc HBX.out (Zn _) HCZ.out;have ct1:=Zc HBX.out (Zn _) HCT.out;have ez:(z != z)=false:=by simp
     clear hbx HSX HDS
     go_wp2_with fail
     clear cz1 ct1
     go_loopw [22] (fun q W=>∃ jx:Nat,jx≤nu∧q=.int .i64 jx∧Below w7.heap.size w7 W) (fun q _=>nu-(intOf q).toNat)
     case atStart=>exact ⟨0,Nat.zero_le _,rfl,HBX.out⟩
     case round =>
      obtain ⟨jx,hjx,rfl,hb⟩:=hrel;have HBj:=Zh hb
      by_cases hlj:jx<nu
      rotate_left
      · obtain rfl:nu=jx:=by omega
        have i7:¬(nu:Int)<(nu:Int):=by omega
        clear hb hjx hlj
        go_wp2_with fail
        go_roundw
        case rel=>exact ⟨kx+1,by omega,by go_num,HBj.out⟩
        case measure=>simp [intOf];omega
      obtain ⟨_,_,Bj,cj,rowj,un,xu,hTA,ctj,hrdj,hun,_,hDj,hxu⟩:=HTB.out jx hlj
      cases hTA
      obtain ⟨b2,o2,y,hBj,hy,cy⟩:=hrdj.at_ hlk;subst hBj;obtain ⟨_,_,x,hBi,hx,cx⟩:=HRD.out.at_ hlj
      cases hBi
      obtain ⟨x',hx',hdx⟩:=HDI.out.2 jx un hun;rw [hx] at hx'
      cases hx'
      obtain ⟨y',hy',hdy⟩:=hDj.2 kx tn HTN.out;rw [hy] at hy'
      cases hy'
      have htri:=Qjx.tri hOK.out hdx hdy HDZ.out;have hxb:=HBD.out sn row HDI.out jx x hx;have hyb:=HBD.out un rowj hDj kx y hy;have HAD:=Zh (Qgt wr.drew x y hxb hyb);obtain ⟨aa,haa⟩:∃ aa,aa=Qet x y:=⟨_,rfl⟩;rw [←haa] at HAD htri
      have HSX:=Zh (show ∀ V,Below wr.heap.size wr V→V.cell? ⟨tb,to+i,none⟩=some (.slice (some ⟨b1,o1,none⟩) nu ci)∧V.cell? ⟨tb,to+jx,none⟩=some (.slice (some ⟨b2,o2,none⟩) nu cj)∧V.cell? ⟨b1,o1+kx,none⟩=some (.int .i64 z)∧V.cell? ⟨b1,o1+jx,none⟩=some (.int .i64 x)∧V.cell? ⟨b2,o2+kx,none⟩=some (.int .i64 y) from fun V hV=>by
       have hbV:=Zb hb hV;exact ⟨Zc hbV (Zn _) HCT.out,Zc hbV (Zn _) ctj,Zc hbV (Zn _) HCZ.out,Zc hbV (Zn _) cx,Zc hbV (Zn _) cy⟩)
      have i7:(jx:Int)<(nu:Int):=by omega
      have i9:(0:Int)≤(jx:Int):=by omega
      have hgt:¬aa<z:=by omega
      clear hb ctj hrdj hun hDj hxu hy cy hx cx hdx hdy htri hxb hyb haa
      go_wp2_with fail
      refine wp_region_held_drew (S:=fun V=>Below wr.heap.size wr V) (by kernel_rfl) (Zr _ _).drew (fun _=>?_);refine tz 0 169 ?_;refine tz 1 170 ?_;refine tz 2 171 ?_;refine tz 3 172 ?_;refine tz 4 173 ?_;refine tz 5 174 ?_;refine tz 6 175 ?_;refine tz 7 176 ?_;refine tz 8 177 ?_;refine tz 9 178 ?_;refine tz 10 179 ?_;refine tz 11 180 ?_;refine tz 12 181 ?_;refine tz 13 182 ?_;refine tz 14 183 ?_;refine tz 15 184 ?_;refine tz 16 185 ?_;refine tz 17 186 ?_;refine tz 18 187 ?_;refine tz 19 188 ?_;refine tz 20 189 ?_;refine Zk 21 (fun K hK=>?_);go_simp;with_reducible refine HAD.out.mono ?_
      rintro r wx ⟨rfl,rfl⟩;go_simp;refine hK.out _ _ (Zr _ _).drew (fun _=>?_);clear hK K;refine tz 22 191 ?_;refine Zd ?_;have HBy:=Zh (Zb HBj.out (Zr _ _).drew);clear HSX HAD
      go_wp2_with fail
      go_roundw
      case rel=>exact ⟨jx+1,by omega,by go_num,HBy.out⟩
      case measure=>simp [intOf];omega
end Go.Proofs.YteaoiabikjnkeaaGreatDoor
