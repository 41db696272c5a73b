/- Parts of the proof: Mq, AsR, LsP, RfT, RoI, AsC, AsN. -/
import Derived.Test.YteaoiabikjnkeaaGreatDoorC1
import Derived.Test.YteaoiabikjnkeaaGreatDoorC4
import Derived.Test.YteaoiabikjnkeaaGreatDoorC5
import Derived.Test.YteaoiabikjnkeaaGreatDoorC6
import Derived.Test.YteaoiabikjnkeaaGreatDoorC8
import Derived.Test.YteaoiabikjnkeaaGreatDoorC11
import Derived.Test.YteaoiabikjnkeaaGreatDoorC15
import Derived.Test.YteaoiabikjnkeaaGreatDoorC17
import Derived.Maps.OwnSet
import Derived.Maps.OwnOps
import Derived.WideKeyPair
namespace Go.Proofs.YteaoiabikjnkeaaGreatDoor
open Go.RowKit Go.Maps Go.WideMaps Tryz
theorem pr_arr:ArrKey prog 298 3 2:=⟨underlying298,by kernel_rfl,by kernel_rfl,by kernel_rfl⟩
theorem Qmn:Keyed prog 298:=Keyed.of_law pr_arr.law
def kq (x y:Nat):Lit:=.string (keyBytes [.int .i64 (x:Int),.int .i64 (y:Int)])
theorem pr_size:∃ m,Tryz.prog.types.size=m+1:=⟨Tryz.prog.types.size-1,by kernel_rfl⟩
theorem Qsp {x y:Nat}(hx:x≤1000000000000)(hy:y≤1000000000000):keyOf prog 298 (.agg #[.int .i64 (x:Int),.int .i64 (y:Int)])=some (kq x y):=keyOf_pair pr_arr underlying3 pr_size (WalkArith.wf_i64 (by omega)) (WalkArith.wf_i64 (by omega))
theorem kq_ne {x y x' y':Nat}(hx:x≤1000000000000)(hy:y≤1000000000000)(hx':x'≤1000000000000)(hy':y'≤1000000000000) (h:¬(x=x'∧y=y')):kq x y≠kq x' y':=fun e=>by
 have h1:=Qsp hx hy;have h2:=Qsp hx' hy';rw [←e] at h2;have h3:=Qmn.inj h1 h2
 injection h3 with h3
 injection h3 with h3
 injection h3 with a1 a2
 injection a2 with a2 _
 injection a1 with _ a1
 injection a2 with _ a2
 exact h ⟨by omega,by omega⟩
def RV:Value→Option (DataW Value×List MemPlace):=fun v=>some (.held v,[])
def MpQ (W:World)(b n:Nat)(f:Nat→Nat→Option Value):Prop :=
 ∃ D:DataW Value,W.ownsMap prog 298 RV b n D∧IsMap D∧∀ x y:Nat,x≤1000000000000→y≤1000000000000→Maps.has D (kq x y)=(f x y).isSome∧∀ v,f x y=some v→∀ z,D.atKey (kq x y) z=.held v
theorem MpQ.new (w:World):MpQ (w.alloc (.map #[] 0)) w.heap.size 0 (fun _ _=>none) :=
 ⟨.map [],World.ownsMap_made _ _ _ _,isMap_empty,fun x y _ _=>⟨rfl,fun v h=>by cases h⟩⟩
theorem MpQ.lt {W:World}{b n:Nat}{f:Nat→Nat→Option Value}(h:MpQ W b n f):b<W.heap.size:=by
 obtain ⟨D,h1,_⟩:=h;exact h1.lt
theorem MpQ.grown {W W':World}{b n:Nat}{f:Nat→Nat→Option Value}{r:Option Nat}(h:MpQ W b n f)(hg:W.grownBy W' r)(hr:r≠some b):MpQ W' b n f:=by
 obtain ⟨D,h1,h2⟩:=h;exact ⟨D,h1.kept hg (fun e=>hr e.symm),h2⟩
theorem MpQ.below {W W':World}{b n:Nat}{f:Nat→Nat→Option Value}(h:MpQ W b n f)(hb:Below W.heap.size W W'):MpQ W' b n f:=h.grown ⟨hb.os,hb.tape,hb.output,hb.size,fun k hk _=>hb.block k hk⟩ (r:=none) (by simp)
theorem MpQ.set {W:World}{b n g i:Nat}{f:Nat→Nat→Option Value}(h:MpQ W b n f)(hg:g≠b)(v:Value):MpQ (W.setCell ⟨g,i,none⟩ v) b n f:=h.grown (Qaa _ _ _ _) (fun e=>hg (by injection e))
theorem Qwg (w:World):(zeroValue 164).run prog w=.ok (.agg #[.slice none 0 0,.slice none 0 0]) w:=by kernel_rfl
section
variable {w:World} {ops:Array Oper} {rest:List Oper} {o:Oper} {a:Act} {Q:Exit→Act→World→Prop} {b n:Nat} {f:Nat→Nat→Option Value}
theorem Qvw (hg:o.guard=none)(m x:Operand)(hop:o.op=Op.lookup 199 m x true)(i k:Nat) (hm:a.eval m=.map (some b)) (h:MpQ w b n f) (hx:a.eval x=.agg #[.int .i64 i,.int .i64 k]) (hi:i≤1000000000000) (hk:k≤1000000000000)
 (hK:wpList prog ops Q rest (a.put o.dst (.tuple #[(f i k).getD (.agg #[.slice none 0 0,.slice none 0 0]),.bool (f i k).isSome])) w):wpList prog ops Q (o::rest) a w:=by
 obtain ⟨D,h1,h2,h3⟩:=h;refine wpList_lookup_own_ok w hg m x 199 hop 298 164 Qmn underlying199 RV (Qwg w) _ [] rfl b n D hm h1 _ _ hx (Qsp hi hk) (fun v ps hv=>?_);obtain ⟨g1,g2⟩:=h3 i k hi hk;rw [g1]
 have:v=(f i k).getD (.agg #[.slice none 0 0,.slice none 0 0]):=by
  have hv':DataW.held v=D.atKey (kq i k) (.held (.agg #[.slice none 0 0,.slice none 0 0])):=congrArg Prod.fst (Option.some.inj hv)
  cases hf:f i k with
  | none =>
   rw [hf] at g1;rw [atKey_of_not_has g1] at hv'
   injection hv'
  | some u =>
   rw [g2 u hf] at hv'
   injection hv'
 subst this;exact hK
end
end Go.Proofs.YteaoiabikjnkeaaGreatDoor
namespace Go.Proofs.YteaoiabikjnkeaaGreatDoor
open Go.RowKit Tryz
attribute [local go_sem ↓] Go.wp_at_zero Go.wp_at_succ
structure QR (V:World) (qb g o:Nat) (N:Qaq) (ls:List (List Int)) (s t:Nat) (CA:Option Addr) (NC cC:Nat) (cl:List Int) (Q:Option Addr) (L cq mb bb na:Nat):Prop where
 gr:Qeo V g N
 ov:Qgd V o N.ar ls
 part:RdT V Q L ls
 costs:RdI V CA NC cl
 q0:V.cell? ⟨qb,0,none⟩=some (.pointer (some ⟨g,0,none⟩))
 q1:V.cell? ⟨qb,1,none⟩=some (.pointer (some ⟨o,0,none⟩))
 q2:V.cell? ⟨qb,2,none⟩=some (.slice CA NC cC)
 q3:V.cell? ⟨qb,3,none⟩=some (.int .i64 s)
 q4:V.cell? ⟨qb,4,none⟩=some (.int .i64 t)
 q5:V.cell? ⟨qb,5,none⟩=some (.slice Q L cq)
 q6:V.cell? ⟨qb,6,none⟩=some (.map (some mb))
 q7:V.cell? ⟨qb,7,none⟩=some (.slice (some ⟨bb,0,none⟩) na na)
section
variable {V W:World} {qb g o:Nat} {N:Qaq} {ls:List (List Int)} {s t:Nat} {CA:Option Addr} {NC cC:Nat} {cl:List Int} {Q:Option Addr} {L cq mb bb na:Nat}
theorem QR.le (h:QR V qb g o N ls s t CA NC cC cl Q L cq mb bb na)(hl:Le V W):QR W qb g o N ls s t CA NC cC cl Q L cq mb bb na :=
 ⟨h.gr.le hl,h.ov.le hl,h.part.le hl,h.costs.le hl,hl _ _ h.q0,hl _ _ h.q1,hl _ _ h.q2,hl _ _ h.q3,hl _ _ h.q4,hl _ _ h.q5,hl _ _ h.q6,hl _ _ h.q7⟩
theorem QR.below (h:QR V qb g o N ls s t CA NC cC cl Q L cq mb bb na)(hb:Below V.heap.size V W):QR W qb g o N ls s t CA NC cC cl Q L cq mb bb na:=h.le (Le.below hb)
end
set_option maxHeartbeats 2000000 in
theorem Qna (w:World)(qb g o:Nat)(N:Qaq) (ls:List (List Int)) (s t:Nat) (CA:Option Addr) (NC cC:Nat) (cl:List Int) (Q:Option Addr) (L cq mb bb na a:Nat) (x xs xt:Tri) (h:QR w qb g o N ls s t CA NC cC cl Q L cq mb bb na) (hok:Qaw N) (hP:Qay N.vs.length ls) (hx:N.ar[a]?=some x) (hxs:N.ar[s]?=some xs) (hxt:N.ar[t]?=some xt) :
 Calls prog 125 #[.pointer (some ⟨qb,0,none⟩),.int .i64 a] w fun e w'=>e=.returned (.int .i64 ((Qfi ls (toV N a) [toV N s,frV N t]:Nat):Int))∧Below w.heap.size w w':=by
 have HLV:=Zh (show lvI N.vs.length ls x.2.1 xs.2.1 xt.1=((Qfi ls (toV N a) [toV N s,frV N t]:Nat):Int) from by
  have o1:=hok.arcs x (Zm hx);have o2:=hok.arcs xs (Zm hxs);have o3:=hok.arcs xt (Zm hxt);unfold lvI;rw [if_pos ⟨⟨o1.g0,o1.g1⟩,⟨o2.g0,o2.g1⟩,⟨o3.f0,o3.f1⟩⟩,(Qbo hx).1,(Qbo hxs).1,(Qbo hxt).2.1])
 have HTA:=Zh (fun V (hV:Below w.heap.size w V)=>Qhi g a N x V (h.gr.below hV) hx);have HTS:=Zh (fun V (hV:Below w.heap.size w V)=>Qhi g s N xs V (h.gr.below hV) hxs);have HFT:=Zh (fun V (hV:Below w.heap.size w V)=>Qgr g t N xt V (h.gr.below hV) hxt);have HLO:=Zh (fun V (hV:Below w.heap.size w V)=>Qks Q L cq N.vs.length ls x.2.1 xs.2.1 xt.1 V (h.part.below hV) hP)
 have HSX:=Zh (show ∀ V,Below w.heap.size w V→V.cell? ⟨qb,0,none⟩=some (.pointer (some ⟨g,0,none⟩))∧V.cell? ⟨qb,3,none⟩=some (.int .i64 s)∧V.cell? ⟨qb,4,none⟩=some (.int .i64 t)∧V.cell? ⟨qb,5,none⟩=some (.slice Q L cq) from
  fun V hV=>⟨(h.below hV).q0,(h.below hV).q3,(h.below hV).q4,(h.below hV).q5⟩)
 clear h hok hP hx hxs hxt
 go_enter func125,ntmps125
 go_wp2_with fail
 refine wp_region_held_drew (S:=fun V=>Below w.heap.size w V) (by kernel_rfl) (Zr _ _).drew (fun _=>?_);refine tz 0 5 ?_;refine tz 1 6 ?_;refine tz 2 7 ?_;refine tz 3 8 ?_;refine tz 4 9 ?_;refine tz 5 10 ?_;refine tz 6 11 ?_;refine tz 7 12 ?_;refine tz 8 13 ?_;refine tz 10 15 ?_;refine tz 11 16 ?_;refine tz 12 17 ?_;refine tz 13 18 ?_;refine tz 14 19 ?_;refine tz 15 20 ?_;refine tz 16 21 ?_;refine tz 17 22 ?_;refine tz 19 24 ?_;refine tz 20 25 ?_;refine tz 21 26 ?_;refine tz 22 27 ?_;refine tz 23 28 ?_;refine tz 24 29 ?_;refine tz 25 30 ?_;refine tz 26 31 ?_;refine Zk 9 (fun K hK=>?_);go_simp;with_reducible refine (HTA.out _ (Zr _ _).drew).mono ?_
 rintro r w' ⟨rfl,rfl⟩;go_simp;refine hK.out _ _ (Zr _ _).drew (fun _=>?_);clear hK K;refine Zk 18 (fun K hK=>?_);go_simp;with_reducible refine (HTS.out _ (Zr _ _).drew).mono ?_
 rintro r w' ⟨rfl,rfl⟩;go_simp;refine hK.out _ _ (Zr _ _).drew (fun _=>?_);clear hK K;refine Zk 27 (fun K hK=>?_);go_simp;with_reducible refine (HFT.out _ (Zr _ _).drew).mono ?_
 rintro r w' ⟨rfl,rfl⟩;go_simp;refine hK.out _ _ (Zr _ _).drew (fun _=>?_);clear hK K;refine Zk 28 (fun K hK=>?_);go_simp;with_reducible refine (HLO.out _ (Zr _ _).drew).mono ?_
 rintro r w2 ⟨rfl,hb2⟩;rw [HLV.out];have hb2':Below w.heap.size w w2:=(Zr _ _).drew.trans hb2;go_simp;refine hK.out _ _ hb2' (fun _=>?_);clear hK K;refine tz 29 4 ?_;refine Zd ?_;clear hb2 HSX
 go_wp2_with fail
 go_ret
 exact ⟨rfl,hb2'⟩
set_option maxRecDepth 20000 in
set_option maxHeartbeats 1000000 in
theorem Qjm (w:World)(g o:Nat)(N:Qaq) (ls:List (List Int)) (s t:Nat) (CA:Option Addr) (NC cC:Nat) (cl:List Int) (hg:Qeo w g N) (ho:Qgd w o N.ar ls) (hc:RdI w CA NC cl) (hok:Qaw N) (hP:Qay N.vs.length ls) :
 Calls prog 63 #[.pointer (some ⟨g,0,none⟩),.pointer (some ⟨o,0,none⟩),.slice CA NC cC,.int .i64 s,.int .i64 t] w fun e w'=>∃ qb Q cq mb bb,e=.returned (.pointer (some ⟨qb,0,none⟩)) ∧
  QR (msk w' (fun b=>b<w'.heap.size∧b≠bb∧b≠mb)) qb g o N ls s t CA NC cC cl Q ls.length cq mb bb N.ar.length∧MpQ w' mb 0 (fun _ _=>none)∧Blk w' bb 3 (Qcd (List.replicate N.ar.length 0))∧(w.heap.size≤mb∧w.heap.size≤bb∧mb≠bb)∧Below w.heap.size w w':=by
 have HG:=Zh hg;have HO:=Zh ho;have HC:=Zh hc;obtain ⟨na,hna⟩:∃ na,na=N.ar.length:=⟨_,rfl⟩;have hla:na≤16384:=by rw [hna];exact hok.la
 have hmk:=Qcv na (by omega);have HGA:=Zh (fun V (hV:Below w.heap.size w V)=>(show Calls prog 85 #[.pointer (some ⟨g,0,none⟩)] V fun e w'=>e=.returned (.int .i64 na)∧V=w' by rw [hna];exact Qhc g N V (hg.below hV)))
 have HPT:=Zh (Qka o N.ar ls w ho (by have:=hP.l6;omega) (fun l hl=>by have:=(hP.lvl l hl).len;have:=hok.lv;omega));obtain ⟨L,hL⟩:∃ L,L=ls.length:=⟨_,rfl⟩;rw [←hL] at HPT;rw [←hna,←hL];clear hg ho hc hok hP hna hL
 go_enter func63,ntmps63
 go_wp2_with fail
 with_reducible refine HPT.out.mono ?_
 rintro r w1 ⟨Q,cq,rfl,hQ,hb1⟩;have HQ:=Zh hQ;have hfl:∀ V,(Instr.field 87 (.agg #[.slice Q L cq]) 0).run prog V=.ok (.slice Q L cq) V:=fun V=>by rfl
 have hmm:=@run_makeMap prog;clear hQ HPT
 go_wp2_with fail
 (refine Qad ?_;intro w2 hw2)
 have hb2:Below w1.heap.size w1 w2:=by rw [hw2];exact Qah
 have HM2:=Zh (show MpQ w2 w1.heap.size 0 (fun _ _=>none) by rw [hw2];exact MpQ.new w1)
 clear hw2;have hb12:=Zb hb1 hb2;with_reducible refine (HGA.out w2 hb12).mono ?_
 rintro r w' ⟨rfl,rfl⟩
 go_wp2_with fail
 obtain ⟨bb,hbb⟩:∃ b,b=w2.heap.size:=⟨_,rfl⟩;obtain ⟨mb,hmb⟩:∃ b,b=w1.heap.size:=⟨_,rfl⟩;rw [←hbb,←hmb];rw [←hmb] at HM2;have s12:mb<w2.heap.size:=HM2.out.lt
 have s1:w.heap.size≤mb:=by rw [hmb];exact hb1.size
 obtain ⟨w3,hw3⟩:∃ V,V=w2.alloc (.cells (Qbg (.int .i64 0) na) 3):=⟨_,rfl⟩;rw [←hw3];have hB3:Blk w3 bb 3 (Qcd (List.replicate na 0)):=by rw [hw3,←Qcz];exact Blk.new' _ _ _ hbb
 have hb3:Below w2.heap.size w2 w3:=by rw [hw3];exact (Zr _ _).alloc (Zn _) _
 have s3:w3.heap.size=bb+1:=by rw [hw3,World.size_alloc,hbb]
 clear hw3;obtain ⟨w4,hw4⟩:∃ V,V=w3.alloc (.cells #[.pointer (some ⟨g,0,none⟩),.pointer (some ⟨o,0,none⟩),.slice CA NC cC,.int .i64 s,.int .i64 t,.slice Q L cq,.map (some mb),.slice (some ⟨bb,0,none⟩) na na] 220):=⟨_,rfl⟩;rw [←hw4];have hB4:Blk w4 (bb+1) 220 #[.pointer (some ⟨g,0,none⟩),.pointer (some ⟨o,0,none⟩),.slice CA NC cC,.int .i64 s,.int .i64 t,.slice Q L cq,.map (some mb),.slice (some ⟨bb,0,none⟩) na na]:=by rw [hw4];exact Blk.new' _ _ _ s3.symm
 have hb4:Below w3.heap.size w3 w4:=by rw [hw4];exact (Zr _ _).alloc (Zn _) _
 have s4:w4.heap.size=bb+2:=by rw [hw4,World.size_alloc,s3]
 clear hw4;have hb24:=Zb hb3 hb4;have hb14:=Zb hb2 hb24;have hb04:=Zb hb1 hb14;have hle:Le w (msk w4 (fun b=>b<w4.heap.size∧b≠bb∧b≠mb)):=Le.mskBelow hb04 (fun b hb=>⟨by omega,by omega,by omega⟩);have hmk4:∀ i v,w4.cell? ⟨bb+1,i,none⟩=some v→(msk w4 (fun b=>b<w4.heap.size∧b≠bb∧b≠mb)).cell? ⟨bb+1,i,none⟩=some v:=fun i v h=>Qfm h ⟨by omega,by omega,by omega⟩
 go_ret
 refine ⟨bb+1,Q,cq,mb,bb,rfl,⟨HG.out.le hle,HO.out.le hle,(HQ.out.le (fun a v h=>?_)),HC.out.le hle,hmk4 _ _ (Zq hB4),hmk4 _ _ (Zq hB4),hmk4 _ _ (Zq hB4),hmk4 _ _ (Zq hB4),hmk4 _ _ (Zq hB4),hmk4 _ _ (Zq hB4),hmk4 _ _ (Zq hB4),hmk4 _ _ (Zq hB4)⟩,HM2.out.below hb24,hB3.below hb4 hB3.lt,⟨s1,by omega,by omega⟩,hb04⟩;obtain ⟨h1,h2⟩:=Qaz.1 h;exact Qaz.2 ⟨⟨by omega,by omega,by omega⟩,Zc hb14 (Zn _) h2⟩
set_option maxHeartbeats 400000 in
theorem Qep (A:Option Addr)(n c:Nat)(l:List Int)(v:Int)(w:World)(h:RdI w A n l)(hn:n≤1000000000) :
 Calls prog 53 #[.slice A n c,.int .i64 v] w fun e w'=>e=.returned (.int .i64 (plI l v))∧w=w':=by
 have HR:=Zh h;have HL:=Zh h.1;clear h
 go_enter func53,ntmps53
 go_wp2_with fail
 go_loop [5] (fun q=>∃ k:Nat,k≤n∧q=.int .i64 k∧∀ j x,j<k→l[j]?=some x→x≠v) (fun q=>n-(intOf q).toNat)
 case atStart=>exact ⟨0,Nat.zero_le _,rfl,fun _ _ h=>absurd h (Nat.not_lt_zero _)⟩
 case round =>
  obtain ⟨k,hk,rfl,hj⟩:=hrel;have HJ:=Zh hj;clear hj
  by_cases hlt:k<n
  · obtain ⟨b,o,x,rfl,hx,hc⟩:=HR.out.at_ hlt
    have i1:(0:Int)≤(k:Int):=by omega
    have i2:(k:Int)<(n:Int):=by omega
    by_cases e:x=v
    · have HP:=Zh (Qmp (e▸hx) HJ.out)
      have e1:(x == v)=true:=by simpa using e
      have e2:(v == x)=true:=by simpa using e.symm
      clear e hx
      go_wp2_with fail
      go_ret
      exact ⟨Qbz HP.out.symm,rfl⟩
    · have e1:(x == v)=false:=by simpa using e
      have e2:(v == x)=false:=by simpa using (fun h:v=x=>e h.symm)
      have HX:=Zh hx;have HE:=Zh e;clear e hx
      go_wp2_with fail
      go_round
      case rel=>exact ⟨k+1,by omega,by go_num,fun j y hj hy=>by
       by_cases ej:j=k
       · subst ej
         rw [HX.out] at hy
         cases hy
         exact HE.out
       · exact HJ.out j y (by omega) hy⟩
      case measure=>simp [intOf];omega
  · obtain rfl:n=k:=by omega
    have HP:=Zh (Qcj (l:=l) (v:=v) (fun hm=>by
     obtain ⟨j,hj⟩:=List.getElem?_of_mem hm;exact HJ.out j v (by rw [←HL.out];exact (Zs hj).1) hj rfl))
    go_wp2_with fail
    go_ret
    exact ⟨Qbz HP.out.symm,rfl⟩
theorem Qdu (A B C:Option Addr)(n m k c d e:Nat)(a:Int)(w:World)(h0:0≤a)(h1:a<m) :
 Calls prog 40 #[.agg #[.slice A n c,.slice B m d,.slice C k e],.int .i64 a] w fun r w'=>r=.returned (.bool true)∧Below w.heap.size w w':=by
 go_enter func40,ntmps40
 go_wp2
 go_ret
 exact ⟨Qbh (by first|(simp;done)|(simp;omega)),Qah⟩
theorem idx_at {f:Tri→Int}{l:List Tri}{k:Nat}{y:Tri} (h:l[k]?=some y):∀ j,k<j→j≤l.length→(idx f (l.take j) (f y))[(idx f (l.take k) (f y)).length]?=some (k:Int):=by
 intro j
 induction j with
 | zero=>intro h1;omega
 | succ j ih =>
  intro h1 h2;obtain ⟨z,hz⟩:∃ z,l[j]?=some z:=⟨_,Zg (by omega)⟩;rw [Qee hz]
  by_cases e:k=j
  · subst e
    rw [h] at hz
    cases hz
    rw [List.getElem?_append_right (Zn _),Nat.sub_self];simp
  · have:=ih (by omega) (by omega)
    rw [List.getElem?_append_left (Zs this).1];exact this
theorem Qvv {f:Tri→Int}{l:List Tri}{k:Nat}{y:Tri} (h:l[k]?=some y):plI (idx f l (f y)) (k:Int)=((idx f (l.take k) (f y)).length:Nat):=by
 have hk:=(Zs h).1;have h1:=idx_at (f:=f) h l.length hk (Zn _);rw [List.take_length] at h1;refine Qmp h1 (fun j x hj hx=>?_);have hs:=Quf f (f y) l;rw [List.pairwise_iff_getElem] at hs;obtain ⟨p1,e1⟩:=Zs hx;obtain ⟨p2,e2⟩:=Zs h1;have:=hs j _ p1 p2 hj;omega
set_option maxHeartbeats 1000000 in
theorem Qon (A:Option Addr)(n c:Nat)(t:Qfh)(i o:Nat)(w:World)(h:RdI w A n t.costs)(ht:Qng t) (hi:(i:Int)<t.ins) (ho:(o:Int)<t.outs) :
 Calls prog 67 #[.agg #[.int .i64 t.ins,.int .i64 t.outs,.slice A n c],.int .i64 i,.int .i64 o] w fun e w'=>∃ x,t.costs[i*t.outs.toNat+o]?=some x∧e=.returned (.int .i64 x)∧Below w.heap.size w w':=by
 obtain ⟨p,q,cs⟩:=t;simp only at h hi ho ⊢;have i0:0≤p:=ht.i0;have i16:p≤16:=ht.i16;have o0:0≤q:=ht.o0;have o16:q≤16:=ht.o16;have hm:=Qox i0 i16 o0 o16;have hl:(cs.length:Int)=p*q:=ht.len
 have hk:(i:Int)*q+o<p*q:=by
  have h1:((i:Int)+1)*q≤p*q:=Int.mul_le_mul_of_nonneg_right (by omega) o0;rw [Int.add_mul,Int.one_mul] at h1;omega
 have hk0:0≤(i:Int)*q:=Int.mul_nonneg (by omega) o0;obtain ⟨k,hkk⟩:∃ k:Nat,(k:Int)=(i:Int)*q+o:=⟨((i:Int)*q+o).toNat,by omega⟩
 have hke:i*q.toNat+o=k:=by
  have:((i*q.toNat+o:Nat):Int)=(k:Int):=by
   rw [hkk]
   push_cast
   rw [Int.toNat_of_nonneg o0]
  exact_mod_cast this
 rw [hke];have hkl:k<n:=by rw [←h.1];omega
 obtain ⟨b,oo,x,hA,hx,hc⟩:=h.at_ hkl;subst hA;have e1:IntKind.i64.wrap ((i:Int)*q)=(i:Int)*q:=IntWalk.i64_in _ (by omega);have e2:IntKind.i64.wrap ((i:Int)*q+o)=(k:Int):=by rw [←hkk];exact IntWalk.i64_in _ (by omega)
 have i1:((k:Int))<(n:Int):=by omega
 have i2:¬(p≤(i:Int)):=by omega
 have i3:¬(q≤(o:Int)):=by omega
 have i4:¬((i:Int)<0):=by omega
 have i5:¬((o:Int)<0):=by omega
 have HX:=Zh hx;have hb:=Qal hc;simp only at hb;clear hx hk hm hl hkk hke h ht
 go_enter func67,ntmps67
 go_wp2_with fail
 go_ret
 exact ⟨x,HX.out,rfl,Qah⟩
set_option maxHeartbeats 2000000 in
theorem Qti (A B C:Option Addr)(n m k c d e:Nat)(N:Qaq)(a b:Nat)(x y:Tri)(w:World)(h:Qca w A B C n m k N)(hok:Qaw N) (hx:N.ar[a]?=some x) (hy:N.ar[b]?=some y) :
 Calls prog 80 #[.agg #[.slice A n c,.slice B m d,.slice C k e],.int .i64 a,.int .i64 b] w fun r w'=>r=.returned (.int .i64 (Qba N a b))∧Below w.heap.size w w':=by
 have HH:=Zh h;have hm:m≤16384:=by rw [←h.2.1.1];exact hok.la
 have hlm:N.ar.length=m:=h.2.1.1;have hln:N.vs.length=n:=h.1.1;have hn4:=hok.lv;have hla:=(Zs hx).1;have hlb:=(Zs hy).1;have hax:=hok.arcs x (Zm hx);obtain ⟨bb,o,x1,x2,x3,rfl,hx',ax,ay,az⟩:=h.2.1.at_ (i:=a) (by omega);rw [hx] at hx'
 cases hx'
 obtain ⟨bb',o',y1,y2,y3,e',hy',bx,by_,bz⟩:=h.2.1.at_ (i:=b) (by omega)
 cases e'
 rw [hy] at hy'
 cases hy'
 have i1:(0:Int)≤(a:Int):=by omega
 have i2:(a:Int)<(m:Int):=by omega
 have i3:(0:Int)≤(b:Int):=by omega
 have i4:(b:Int)<(m:Int):=by omega
 obtain ⟨v,rfl⟩:∃ v:Nat,x2=(v:Int):=⟨x2.toNat,by have:=hax.g0;simp only at this;omega⟩;have hvn:v<n:=by have:=hax.g1;simp only at this;omega
 obtain ⟨b2,o2,v1,v2,v3,hA2,hv,vx,vy,vz⟩:=h.1.at_ (i:=v) hvn;subst hA2;have hvo:=hok.verts _ (Zm hv);obtain ⟨t,rfl⟩:∃ t:Nat,v3=(t:Int):=⟨v3.toNat,by have:=hvo.t0;simp only at this;omega⟩;have htl:N.ts.length=k:=h.2.2.1;have htk:t<k:=by have:=hvo.t1;simp only at this;omega
 obtain ⟨b3,o3,tb,hA3,htb,t0,t1,AT,nT,cT,t2,hrd,hnT,hcT⟩:=h.2.2.at_ htk;subst hA3;have hto:=hok.tabs tb (Zm htb);have hk:=hok.lt;have hmt:=hok.meet v _ tb hv (by simpa using htb);obtain ⟨i,hi⟩:∃ i:Nat,i=(idx (·.2.1) (N.ar.take a) (v:Int)).length:=⟨_,rfl⟩;have hip:(i:Int)<tb.ins:=by rw [←hmt.1,hi];exact_mod_cast Qio (f:=(·.2.1)) hx rfl
 obtain ⟨q,hq⟩:∃ q:Nat,q=(idx (·.1) (N.ar.take b) y1).length:=⟨_,rfl⟩;have hqp:y1=(v:Int)→(q:Int)<tb.outs:=fun e=>by rw [←hmt.2,hq,e];exact_mod_cast Qio (f:=(·.1)) hy e
 have hpi:plI (idx (·.2.1) N.ar (v:Int)) (a:Int)=(i:Int):=by rw [hi];exact Qvv (f:=(·.2.1)) hx
 have hpq:y1=(v:Int)→plI (idx (·.1) N.ar (v:Int)) (b:Int)=(q:Int):=fun e=>by rw [hq,←e];exact Qvv (f:=(·.1)) hy
 have HTN:=Zh (show ∀ z,y1=(v:Int)→tb.costs[i*tb.outs.toNat+q]?=some z→Qba N a b=z from fun z e hz=>by
  unfold Qba;rw [hx,hy];simp only [if_pos e.symm,Int.toNat_natCast,hv,htb,Qgo,←hi,←hq];rw [List.getD_eq_getElem?_getD,hz]
  rfl)
 have i5:(0:Int)≤(v:Int):=by omega
 have i6:(v:Int)<(n:Int):=by omega
 have i7:(0:Int)≤(t:Int):=by omega
 have i8:(t:Int)<(k:Int):=by omega
 have hil:(idx (·.2.1) N.ar (v:Int)).length≤16384:=by have:=Qgt (·.2.1) N.ar N.ar.length (v:Int);rw [List.take_length] at this;omega
 have hol:(idx (·.1) N.ar (v:Int)).length≤16384:=by have:=Qgt (·.1) N.ar N.ar.length (v:Int);rw [List.take_length] at this;omega
 have HTA:=Zh (fun V (hV:Below w.heap.size w V) (e:y1=(v:Int))=>Qon AT nT cT tb i q V (hrd.below hV) hto hip (hqp e));have HIN:=Zh (fun V (hV:Below w.heap.size w V)=>Qtn _ _ _ n m k c d e N (v:Int) V (HH.out.below hV) hm);have HOU:=Zh (fun V (hV:Below w.heap.size w V)=>Qpf _ _ _ n m k c d e N (v:Int) V (HH.out.below hV) hm);have HPI:=Zh hpi;have HPQ:=Zh hpq;have HIL:=Zh hil;have HOL:=Zh hol
 have HMM:=Zh (show (v:Int)≠y1→Qba N a b=1152921504606846976 from fun hne=>by
  unfold Qba;rw [hx,hy];simp only [if_neg hne])
 have HY:=Zh (show ∀ V,Below w.heap.size w V→V.cell? ⟨bb,o+a*3+1,none⟩=some (.int .i64 (v:Int))∧V.cell? ⟨bb,o+b*3,none⟩=some (.int .i64 y1) ∧
  V.cell? ⟨b2,o2+v*3+2,none⟩=some (.int .i64 t) ∧
  V.cell? ⟨b3,o3+t*3,none⟩=some (.int .i64 tb.ins)∧V.cell? ⟨b3,o3+t*3+1,none⟩=some (.int .i64 tb.outs)∧V.cell? ⟨b3,o3+t*3+2,none⟩=some (.slice AT nT cT) from
  fun V hV=>⟨Zc hV (Zn _) ay,Zc hV (Zn _) bx,Zc hV (Zn _) vz,Zc hV (Zn _) t0,Zc hV (Zn _) t1,Zc hV (Zn _) t2⟩)
 clear vx vy vz t0 t1 t2 hrd hip hqp hmt hv htb hi hq hpi hpq hil hol hto hvo hax hok hnT hcT;clear h ax ay az bx by_ bz hx hy
 go_enter func80,ntmps80
 go_wp2_with fail
 (refine Qaj ?_;intro w1 hw1)
 have hb1:Below w.heap.size w w1:=by rw [hw1];exact Qah
 have hX:Blk w1 w.heap.size 26 #[.slice (some ⟨b2,o2,none⟩) n c,.slice (some ⟨bb,o,none⟩) m d,.slice (some ⟨b3,o3,none⟩) k e]:=by rw [hw1];exact Blk.new _ _ _
 clear hw1
 have HSX:=Zh (show ∀ V,Below w1.heap.size w1 V→V.cell? ⟨w.heap.size,0,none⟩=some (.slice (some ⟨b2,o2,none⟩) n c)∧V.cell? ⟨w.heap.size,1,none⟩=some (.slice (some ⟨bb,o,none⟩) m d)∧V.cell? ⟨w.heap.size,2,none⟩=some (.slice (some ⟨b3,o3,none⟩) k e)∧_ from
  fun V hV=>⟨by rw [(hX.below hV hX.lt).cell];rfl,by rw [(hX.below hV hX.lt).cell];rfl,by rw [(hX.below hV hX.lt).cell];rfl,HY.out V (Zb hb1 hV)⟩)
 clear HY hX;refine wp_region_held_drew (S:=fun V=>Below w1.heap.size w1 V) (by kernel_rfl) (Zr _ _).drew (fun _=>?_);refine tz 0 8 ?_;refine tz 1 9 ?_;refine Zk 2 (fun K hK=>?_);go_simp;with_reducible refine (Qdu _ _ _ n m k c d e (a:Int) _ i1 i2).mono ?_
 rintro r w2 ⟨rfl,hb2⟩;have hb2':Below w1.heap.size w1 w2:=(Zr _ _).drew.trans hb2;clear hb2;go_simp;refine hK.out _ _ hb2' (fun _=>?_);clear hK K;refine tz 3 11 ?_;refine tz 4 12 ?_;refine tz 5 13 ?_;refine tz 6 14 ?_;refine Zk 7 (fun K hK=>?_);go_simp;with_reducible refine (Qdu _ _ _ n m k c d e (b:Int) _ i3 i4).mono ?_
 rintro r w3 ⟨rfl,hb3⟩;have hb3':=Zb hb2' hb3;clear hb2' hb3;go_simp;refine hK.out _ _ hb3' (fun _=>?_);clear hK K;refine tz 8 16 ?_;refine tz 9 17 ?_;refine tz 10 18 ?_;refine tz 11 19 ?_;refine tz 12 20 ?_;refine tz 13 21 ?_;refine tz 14 22 ?_;refine tz 15 23 ?_;refine tz 16 24 ?_;refine tz 17 25 ?_;refine tz 18 26 ?_;refine tz 19 27 ?_;refine tz 20 28 ?_;refine tz 21 29 ?_;refine tz 22 30 ?_;refine tz 23 31 ?_;refine tz 24 32 ?_;refine Zd ?_
 by_cases hxy:(v:Int)=y1
 rotate_left
 · have e1:((v:Int) != y1)=true:=by simp [hxy]
   have HE:=Zh (HMM.out hxy);clear hxy
   go_wp2_with fail
   go_ret
   rw [HE.out];exact ⟨rfl,Zb hb1 hb3'⟩
 have e1:((v:Int) != y1)=false:=by simp [hxy]
 subst hxy;have HSXO:=HSX;have hc:=HSX.out w3 hb3'
 go_split_ands
 clear HSX;have HSX:=HSXO;clear HSXO
 go_wp2_with fail
 refine wp_region_held_drew (S:=fun V=>Below w1.heap.size w1 V) (by kernel_rfl) hb3'.drew (fun _=>?_);refine tz 0 39 ?_;refine tz 1 40 ?_;refine tz 2 41 ?_;refine tz 3 42 ?_;refine tz 4 43 ?_;refine tz 5 44 ?_;refine tz 6 45 ?_;refine tz 7 46 ?_;refine tz 8 47 ?_;refine tz 9 48 ?_;refine tz 10 49 ?_;refine tz 11 50 ?_;refine tz 13 52 ?_;refine tz 15 54 ?_;refine tz 16 55 ?_;refine tz 18 57 ?_;refine Zk 12 (fun K hK=>?_);go_simp;with_reducible refine (HIN.out _ (Zb hb1 hb3'.drew)).mono ?_
 rintro r w4 ⟨A4,n4,c4,rfl,h4,hb4⟩;have hb4':Below w1.heap.size w1 w4:=Zb hb3'.drew hb4;have H4:=Zh h4;have hn4l:n4≤1000000000:=by have:=HIL.out;have:=h4.1;omega
 clear h4 hb4;go_simp;refine hK.out _ _ hb4' (fun _=>?_);clear hK K;refine Zk 14 (fun K hK=>?_);go_simp;with_reducible refine (Qep A4 n4 c4 _ (a:Int) w4 H4.out hn4l).mono ?_
 rintro r w' ⟨rfl,rfl⟩;rw [HPI.out];go_simp;refine hK.out _ _ hb4' (fun _=>?_);clear hK K;refine Zk 17 (fun K hK=>?_);go_simp;with_reducible refine (HOU.out _ (Zb hb1 hb4')).mono ?_
 rintro r w5 ⟨A5,n5,c5,rfl,h5,hb5⟩;have hb5':Below w1.heap.size w1 w5:=Zb hb4' hb5;have H5:=Zh h5;have hn5l:n5≤1000000000:=by have:=HOL.out;have:=h5.1;omega
 clear h5 hb5;go_simp;refine hK.out _ _ hb5' (fun _=>?_);clear hK K;refine Zk 19 (fun K hK=>?_);go_simp;with_reducible refine (Qep A5 n5 c5 _ (b:Int) w5 H5.out hn5l).mono ?_
 rintro r w' ⟨rfl,rfl⟩;rw [HPQ.out trivial];go_simp;refine hK.out _ _ hb5' (fun _=>?_);clear hK K;refine Zk 20 (fun K hK=>?_);go_simp;with_reducible refine (HTA.out _ (Zb hb1 hb5') trivial).mono ?_
 rintro r w6 ⟨z,hz,rfl,hb6⟩;have hb6':Below w1.heap.size w1 w6:=Zb hb5' hb6;have HZ:=Zh (HTN.out z trivial hz);clear hz hb6;go_simp;refine hK.out _ _ hb6' (fun _=>?_);clear hK K;refine tz 21 6 ?_;refine Zd ?_
 go_wp2_with fail
 go_ret
 rw [HZ.out];exact ⟨rfl,Zb hb1 hb6'⟩
section
variable {w V V':World} {D:Nat} {cs:Array Value} {d:List Int}
end
theorem Qpq (w:World)(x:Int)(h0:1152921504606846976<x) :
 Calls prog 98 #[.int .i64 x] w fun e w'=>e=.returned (.int .i64 1152921504606846976)∧w=w':=by
 have e1:decide (x<0)=false:=by simp;omega
 have e2:decide (1152921504606846976<x)=true:=by simp;omega
 go_enter func98,ntmps98
 go_wp2_with fail
 go_ret
 exact ⟨rfl,rfl⟩
theorem Qdx (w:World)(x y:Int)(h0:0≤x∧x≤1152921504606846976)(h1:0≤y∧y≤1152921504606846976) :
 Calls prog 43 #[.int .i64 x,.int .i64 y] w fun e w'=>e=.returned (.int .i64 (Qfl x y))∧w=w':=by
 have HX:=Zh (Qdc w x h0.1 h0.2);have HY:=Zh (Qdc w y h1.1 h1.2)
 have HZ:=Zh (show Calls prog 98 #[.int .i64 (x+y)] w fun e w'=>e=.returned (.int .i64 (Qfl x y))∧w=w' by
  unfold Qfl
  split
  · exact Qpq w (x+y) (by omega)
  · exact Qdc w (x+y) (by omega) (by omega))
 have e1:IntKind.i64.wrap (x+y)=x+y:=IntWalk.i64_in _ (by omega)
 go_enter func43,ntmps43
 go_wp2_with fail
 with_reducible refine HX.out.mono ?_
 rintro e w' ⟨rfl,rfl⟩
 go_wp2_with fail
 with_reducible refine HY.out.mono ?_
 rintro e w' ⟨rfl,rfl⟩
 go_wp2_with fail
 with_reducible refine HZ.out.mono ?_
 rintro e w' ⟨rfl,rfl⟩
 go_wp2_with fail
 go_ret
 exact ⟨rfl,rfl⟩
theorem Qvc {x:Int}(h:x≤1152921504606846976):Qfl 0 x=x:=by
 unfold Qfl
 split <;> omega
theorem Qqv (A:Option Addr)(c:Nat)(w:World)(x y z:Int) (h:RdI w A 3 [x,y,z]) (h0:0≤x∧x≤1152921504606846976) (h1:0≤y∧y≤1152921504606846976) (h2:0≤z∧z≤1152921504606846976) :
 Calls prog 126 #[.slice A 3 c] w fun e w'=>e=.returned (.int .i64 (Qfl (Qfl x y) z))∧w=w':=by
 obtain ⟨b,o,rfl,c0⟩:=h.2 0 x rfl;obtain ⟨b',o',e',c1⟩:=h.2 1 y rfl
 cases e'
 obtain ⟨b',o',e',c2⟩:=h.2 2 z rfl
 cases e'
 rw [Nat.add_zero] at c0;clear h;have HX:=Zh (show Calls prog 43 #[.int .i64 0,.int .i64 x] w fun e w'=>e=.returned (.int .i64 x)∧w=w' from by have:=Qdx w 0 x (by omega) h0;rw [Qvc h0.2] at this;exact this)
 have HY:=Zh (Qdx w x y h0 h1);have gb:=addR_bd h0.1 h1.1;have HZ:=Zh (Qdx w (Qfl x y) z ⟨gb.1,gb.2.1⟩ h2);obtain ⟨u,hu⟩:∃ u,u=Qfl x y:=⟨_,rfl⟩;rw [←hu] at HY HZ ⊢;obtain ⟨v,hv⟩:∃ v,v=Qfl u z:=⟨_,rfl⟩;rw [←hv] at HZ ⊢;clear hu hv gb
 go_enter func126,ntmps126
 go_wp2_with fail
 go_loopw [3,8] (fun s i W=>W=w∧((s=.int .i64 0∧i=.int .i64 0)∨(s=.int .i64 x∧i=.int .i64 1)∨(s=.int .i64 u∧i=.int .i64 2)∨(s=.int .i64 v∧i=.int .i64 3))) (fun _ i _=>3-(intOf i).toNat)
 case atStart=>exact ⟨rfl,.inl ⟨rfl,rfl⟩⟩
 case round =>
  obtain ⟨rfl,⟨rfl,rfl⟩|⟨rfl,rfl⟩|⟨rfl,rfl⟩|⟨rfl,rfl⟩⟩:=hrel
  · go_wp2_with fail
    with_reducible refine HX.out.mono ?_
    rintro e w' ⟨rfl,rfl⟩
    go_wp2_with fail
    go_roundw
    case rel=>exact ⟨by trivial,.inr (.inl ⟨rfl,rfl⟩)⟩
    case measure=>simp [intOf]
  · go_wp2_with fail
    with_reducible refine HY.out.mono ?_
    rintro e w' ⟨rfl,rfl⟩
    go_wp2_with fail
    go_roundw
    case rel=>exact ⟨by trivial,.inr (.inr (.inl ⟨rfl,rfl⟩))⟩
    case measure=>simp [intOf]
  · go_wp2_with fail
    with_reducible refine HZ.out.mono ?_
    rintro e w' ⟨rfl,rfl⟩
    go_wp2_with fail
    go_roundw
    case rel=>exact ⟨by trivial,.inr (.inr (.inr ⟨rfl,rfl⟩))⟩
    case measure=>simp [intOf]
  · go_wp2_with fail
    go_ret
    exact ⟨rfl,rfl⟩
end Go.Proofs.YteaoiabikjnkeaaGreatDoor
namespace Go.Proofs.YteaoiabikjnkeaaGreatDoor
open Go.RowKit Go.Maps Go.WideMaps Tryz
attribute [local go_sem ↓] Go.wp_at_zero Go.wp_at_succ
theorem MpQ.at_ {W W':World}{b n:Nat}{f:Nat→Nat→Option Value}(h:MpQ W b n f) (e:W'.heap[b]?=W.heap[b]?):MpQ W' b n f:=by
 obtain ⟨D,⟨es,clock,h1,h2⟩,h3⟩:=h;exact ⟨D,⟨es,clock,e.trans h1,h2⟩,h3⟩
theorem Qqq {w:World}{o:Oper}{a:Act}{K:Act→World→Prop}{Q:Exit→Act→World→Prop}{b n:Nat}{f:Nat→Nat→Option Value}(m x v:Operand)(hop:o.op=Op.mapUpdate 199 m x v)(i k:Nat)(u:Value) (hm:a.eval m=.map (some b)) (h:MpQ w b n f) (hn:n≤1000000000) (hx:a.eval x=.agg #[.int .i64 i,.int .i64 k]) (hv:a.eval v=u) (hi:i≤1000000000000) (hk:k≤1000000000000)
 (hK:∀ w',MpQ w' b (n+1) (fun p q=>if p=i∧q=k then some u else f p q)→w.grownBy w' (some b)→K (a.put o.dst undef) w'):Oper.wp prog o a w K Q:=by
 obtain ⟨D,h1,h2,h3⟩:=h;obtain ⟨w',hrun,g1,g2⟩:=h1.update Qmn underlying199 (by unfold maxLen;omega) (Qsp hi hk) (show RV u=some (.held u,[]) from rfl)
 have hf:=hK w' ⟨_,g1,h2.put _ _,fun p q hp hq=>by
  have hkl:WideAt.IsKeyLit (kq i k):=by simp [WideAt.IsKeyLit,kq]
  by_cases e:p=i∧q=k
  · obtain ⟨rfl,rfl⟩:=e
    simp only [and_self,if_pos];exact ⟨has_put_same h2 hkl _,fun v e z=>by cases e;exact atKey_put_same h2 hkl _ _⟩
  · simp only [if_neg e]
    exact ⟨(has_put_other (kq_ne hp hq hi hk e) _).trans (h3 p q hp hq).1,fun v e2 z=>(atKey_put_other (kq_ne hp hq hi hk e) _ _).trans ((h3 p q hp hq).2 v e2 z)⟩⟩ g2
 unfold Oper.wp;simp [execOp,hop,hm,hx,hv,hrun,Result.andThen];exact hf
def MpC (V:World)(G:Nat→Prop)(ar:List Tri) (ls:List (List Int)) (f:Nat→Nat→Option Value):Prop :=
 ∀ i k u,f i k=some u→∃ j l x A1 n1 c1 A2 n2 c2,i=j+1∧ls[j]?=some l∧(Qaf ar l)[k]?=some x∧u=.agg #[.slice A1 n1 c1,.slice A2 n2 c2]∧RdI (msk V G) A1 n1 x.1∧RdI (msk V G) A2 n2 x.2
theorem MpC.le {V V':World}{G G':Nat→Prop}{ar:List Tri} {ls:List (List Int)} {f:Nat→Nat→Option Value} (h:MpC V G ar ls f) (hl:Le (msk V G) (msk V' G')):MpC V' G' ar ls f:=fun i k u hu=>by
 obtain ⟨j,l,x,A1,n1,c1,A2,n2,c2,h1,h2,h3,h4,h5,h6⟩:=h i k u hu;exact ⟨j,l,x,A1,n1,c1,A2,n2,c2,h1,h2,h3,h4,h5.le hl,h6.le hl⟩
theorem MpC.put {V:World}{G:Nat→Prop}{ar:List Tri} {ls:List (List Int)} {f:Nat→Nat→Option Value} (h:MpC V G ar ls f) {j k:Nat} {l:List Int} {x:Qan} {A1 A2:Option Addr} {n1 n2 c1 c2:Nat} (hl:ls[j]?=some l) (hx:(Qaf ar l)[k]?=some x) (h1:RdI (msk V G) A1 n1 x.1) (h2:RdI (msk V G) A2 n2 x.2) :
 MpC V G ar ls (fun p q=>if p=j+1∧q=k then some (.agg #[.slice A1 n1 c1,.slice A2 n2 c2]) else f p q):=fun p q u hu=>by
 simp only at hu
 by_cases e:p=j+1∧q=k
 · rw [if_pos e] at hu
   cases hu
   obtain ⟨rfl,rfl⟩:=e;exact ⟨j,l,x,A1,n1,c1,A2,n2,c2,rfl,hl,hx,rfl,h1,h2⟩
 · rw [if_neg e] at hu
   exact h p q u hu
structure Nxw (mb:Nat) (w w':World):Prop where
 kept:Qbk (fun b=>b≠mb) w w'
 size:w.heap.size≤w'.heap.size
 bel:∀ B,B≤mb→Below B w w'
theorem Nxw.below {mb:Nat}{w w':World}(h:Below w.heap.size w w')(hm:mb<w.heap.size):Nxw mb w w':=⟨Qbk.below h,h.size,fun B hB=>h.mono (by omega)⟩
theorem Nxw.grown {mb:Nat}{w w':World} (h:w.grownBy w' (some mb)) (hm:mb<w.heap.size):Nxw mb w w':=⟨Qbk.grown h (fun _ hb e=>hb (by injection e with e;exact e.symm)),h.size,fun B hB=>⟨h.os,h.tape,h.output,h.size,fun k hk=>h.block k (by omega) (fun e2=>by injection e2;omega)⟩⟩
theorem Nxw.trans {mb:Nat}{a b c:World}(h:Nxw mb a b)(k:Nxw mb b c):Nxw mb a c:=⟨h.kept.trans k.kept h.size,Nat.le_trans h.size k.size,fun B hB=>(h.bel B hB).trans (k.bel B hB)⟩
def G2 (G:Nat→Prop)(w w':World):Nat→Prop:=fun b=>G b∨(w.heap.size≤b∧b<w'.heap.size)
theorem G2.le {G:Nat→Prop}{mb:Nat}{w w':World}(h:Nxw mb w w')(hG:¬G mb):Le (msk w G) (msk w' (G2 G w w')) :=
 (Qbk.msk (h.kept.mono (fun _ hb e=>hG (e▸hb)))).trans (Qbn (fun _ hb=>.inl hb))
theorem run_cutG {P:Program}(t e:TypeId) (ht:P.underlying t=some (.slice e)) (he:P.elem t=e) (hs:(P.info? e).map (·.size)=some 1) (A:Option Addr) (n c lo r:Nat) (hlo:lo+r≤c) (h0:0<r) (w:World) :
 (Instr.slice t (.slice A n c) (some (.int .i64 (lo:Int))) (some (.int .i64 ((lo:Int)+(r:Int)))) none).run P w=.ok (.slice (A.map (·.add lo)) r (c-lo)) w:=by
 rw [run_slice_lh (P:=P) w t A n c (by rw [he];exact ht) .i64 .i64 (lo:Int) ((lo:Int)+(r:Int)) (by omega) (by omega) (by omega),he];have e1:((lo:Int)).toNat=lo:=by omega
 have e2:((lo:Int)+(r:Int)).toNat=lo+r:=by omega
 have e3:¬c=lo:=by omega
 rw [e1,e2]
 cases hi:P.info? e with
 | none=>rw [hi] at hs;cases hs
 | some i =>
  rw [hi] at hs;simp at hs;simp [sizeOf,typeInfo,hi,Result.andThen,hs,sliced,e3]
theorem Qsb (A:Option Addr)(n c lo r:Nat)(hlo:lo+r≤c)(h0:0<r)(W:World):(Instr.slice 34 (.slice A n c) (some (.int .i64 (lo:Int))) (some (.int .i64 ((lo:Int)+(r:Int)))) none).run prog W=.ok (.slice (A.map (·.add lo)) r (c-lo)) W :=
 run_cutG 34 2 underlying34 (by kernel_rfl) (by kernel_rfl) A n c lo r hlo h0 W
theorem RdI.sub {w:World}{A:Option Addr}{n:Nat}{l:List Int}(h:RdI w A n l)(lo r:Nat)(hr:lo+r≤n):RdI w (A.map (·.add lo)) r ((l.drop lo).take r):=by
 refine ⟨by rw [List.length_take,List.length_drop,h.1];omega,fun i x hi=>?_⟩;have hir:i<r:=by have:=(Zs hi).1;rw [List.length_take] at this;omega
 rw [List.getElem?_take_of_lt hir,List.getElem?_drop] at hi;obtain ⟨b,o,rfl,hc⟩:=h.2 _ x hi;refine ⟨b,o+lo,?_,by rw [Nat.add_assoc];exact hc⟩;simp only [Option.map_some,Addr.add]
 split
 · rename_i h0;rw [show lo=0 by omega];rfl
 · rfl
theorem set_take {cs:List Int}{i n:Nat}{z:Int} (h:cs[i]?=some z) (hn:i<n) (hl:cs.length=n):(cs.take i ++List.replicate (n-i) 0).set i z=cs.take (i+1) ++List.replicate (n-(i+1)) 0:=by
 have hl2:(cs.take i).length=i:=by rw [List.length_take];omega
 rw [List.set_append_right _ _ (by rw [hl2];exact Zn _),hl2,Nat.sub_self,List.take_succ_eq_append_getElem (by omega),(Zs h).2];obtain ⟨m,hm⟩:∃ m,n-i=m+1:=⟨n-i-1,by omega⟩;rw [hm,show n-(i+1)=m by omega]
 simp [List.replicate_succ]
end Go.Proofs.YteaoiabikjnkeaaGreatDoor
