/- Parts of the proof: Mq, AsR, LsP, RfT, RoI. -/
import Derived.Test.YteaoiabikjnkeaaGreatDoorP1
import Derived.Test.YteaoiabikjnkeaaGreatDoorP3
import Derived.Test.YteaoiabikjnkeaaGreatDoorP4
import Derived.Test.YteaoiabikjnkeaaGreatDoorP5
import Derived.Test.YteaoiabikjnkeaaGreatDoorP7
import Derived.Test.YteaoiabikjnkeaaGreatDoorP16
import Derived.Test.YteaoiabikjnkeaaGreatDoorP17
import Derived.Maps.OwnSet
import Derived.Maps.OwnOps
import Derived.WideKeyPair
namespace Go.Proofs.YteaoiabikjnkeaaGreatDoor
open Go.RowKit Go.Maps Go.WideMaps Tryz
theorem pr_arr:ArrKey prog 298 3 2:=⟨underlying298,by kernel_rfl,by kernel_rfl,by kernel_rfl⟩
theorem Qmo:Keyed prog 298:=Keyed.of_law pr_arr.law
def kq (x y:Nat):Lit:=.string (keyBytes [.int .i64 (x:Int),.int .i64 (y:Int)])
theorem pr_size:∃ m,Tryz.prog.types.size=m+1:=⟨Tryz.prog.types.size-1,by kernel_rfl⟩
theorem Qsa {x y:Nat}(hx:x≤1000000000000)(hy:y≤1000000000000):keyOf prog 298 (.agg #[.int .i64 (x:Int),.int .i64 (y:Int)])=some (kq x y):=keyOf_pair pr_arr underlying3 pr_size (WalkArith.wf_i64 (by omega)) (WalkArith.wf_i64 (by omega))
theorem kq_ne {x y x' y':Nat}(hx:x≤1000000000000)(hy:y≤1000000000000)(hx':x'≤1000000000000)(hy':y'≤1000000000000) (h:¬(x=x'∧y=y')):kq x y≠kq x' y':=fun e=>by
 have h1:=Qsa hx hy;have h2:=Qsa hx' hy';rw [←e] at h2;have h3:=Qmo.inj h1 h2
 injection h3 with h3
 injection h3 with h3
 injection h3 with a1 a2
 injection a2 with a2 _
 injection a1 with _ a1
 injection a2 with _ a2
 exact h ⟨by omega,by omega⟩
def RV:Value→Option (DataW Value×List MemPlace):=fun v=>some (.held v,[])
def MpQ (W:World)(b n:Nat)(f:Nat→Nat→Option Value):Prop :=
 ∃ D:DataW Value,W.ownsMap prog 298 RV b n D∧IsMap D∧∀ x y:Nat,x≤1000000000000→y≤1000000000000→Maps.has D (kq x y)=(f x y).isSome∧∀ v,f x y=some v→∀ z,D.atKey (kq x y) z=.held v
theorem MpQ.new (w:World):MpQ (w.alloc (.map #[] 0)) w.heap.size 0 (fun _ _=>none) :=
 ⟨.map [],World.ownsMap_made _ _ _ _,isMap_empty,fun x y _ _=>⟨rfl,fun v h=>by cases h⟩⟩
theorem MpQ.lt {W:World}{b n:Nat}{f:Nat→Nat→Option Value}(h:MpQ W b n f):b<W.heap.size:=by
 obtain ⟨D,h1,_⟩:=h;exact h1.lt
theorem MpQ.grown {W W':World}{b n:Nat}{f:Nat→Nat→Option Value}{r:Option Nat}(h:MpQ W b n f)(hg:W.grownBy W' r)(hr:r≠some b):MpQ W' b n f:=by
 obtain ⟨D,h1,h2⟩:=h;exact ⟨D,h1.kept hg (fun e=>hr e.symm),h2⟩
theorem MpQ.below {W W':World}{b n:Nat}{f:Nat→Nat→Option Value}(h:MpQ W b n f)(hb:Below W.heap.size W W'):MpQ W' b n f:=h.grown ⟨hb.os,hb.tape,hb.output,hb.size,fun k hk _=>hb.block k hk⟩ (r:=none) (by simp)
theorem MpQ.set {W:World}{b n g i:Nat}{f:Nat→Nat→Option Value}(h:MpQ W b n f)(hg:g≠b)(v:Value):MpQ (W.setCell ⟨g,i,none⟩ v) b n f:=h.grown (Qaa _ _ _ _) (fun e=>hg (by injection e))
theorem Qyj (w:World):(zeroValue 164).run prog w=.ok (.agg #[.slice none 0 0,.slice none 0 0]) w:=by kernel_rfl
section
variable {w:World} {ops:Array Oper} {rest:List Oper} {o:Oper} {a:Act} {Q:Exit→Act→World→Prop} {b n:Nat} {f:Nat→Nat→Option Value}
theorem Qxi (hg:o.guard=none)(m x:Operand)(hop:o.op=Op.lookup 199 m x true)(i k:Nat) (hm:a.eval m=.map (some b)) (h:MpQ w b n f) (hx:a.eval x=.agg #[.int .i64 i,.int .i64 k]) (hi:i≤1000000000000) (hk:k≤1000000000000)
 (hK:wpList prog ops Q rest (a.put o.dst (.tuple #[(f i k).getD (.agg #[.slice none 0 0,.slice none 0 0]),.bool (f i k).isSome])) w):wpList prog ops Q (o::rest) a w:=by
 obtain ⟨D,h1,h2,h3⟩:=h;refine wpList_lookup_own_ok w hg m x 199 hop 298 164 Qmo underlying199 RV (Qyj w) _ [] rfl b n D hm h1 _ _ hx (Qsa hi hk) (fun v ps hv=>?_);obtain ⟨g1,g2⟩:=h3 i k hi hk;rw [g1]
 have:v=(f i k).getD (.agg #[.slice none 0 0,.slice none 0 0]):=by
  have hv':DataW.held v=D.atKey (kq i k) (.held (.agg #[.slice none 0 0,.slice none 0 0])):=congrArg Prod.fst (Option.some.inj hv)
  cases hf:f i k with
  | none =>
   rw [hf] at g1;rw [atKey_of_not_has g1] at hv'
   injection hv'
  | some u =>
   rw [g2 u hf] at hv'
   injection hv'
 subst this;exact hK
end
end Go.Proofs.YteaoiabikjnkeaaGreatDoor
namespace Go.Proofs.YteaoiabikjnkeaaGreatDoor
open Go.RowKit Tryz
attribute [local go_sem ↓] Go.wp_at_zero Go.wp_at_succ
structure QR (V:World) (qb g o:Nat) (N:Qao) (ls:List (List Int)) (s t:Nat) (CA:Option Addr) (NC cC:Nat) (cl:List Int) (Q:Option Addr) (L cq mb bb na:Nat):Prop where
 gr:Qeu V g N
 ov:Qgk V o N.ar ls
 part:RdT V Q L ls
 costs:RdI V CA NC cl
 q0:V.cell? ⟨qb,0,none⟩=some (.pointer (some ⟨g,0,none⟩))
 q1:V.cell? ⟨qb,1,none⟩=some (.pointer (some ⟨o,0,none⟩))
 q2:V.cell? ⟨qb,2,none⟩=some (.slice CA NC cC)
 q3:V.cell? ⟨qb,3,none⟩=some (.int .i64 s)
 q4:V.cell? ⟨qb,4,none⟩=some (.int .i64 t)
 q5:V.cell? ⟨qb,5,none⟩=some (.slice Q L cq)
 q6:V.cell? ⟨qb,6,none⟩=some (.map (some mb))
 q7:V.cell? ⟨qb,7,none⟩=some (.slice (some ⟨bb,0,none⟩) na na)
section
variable {V W:World} {qb g o:Nat} {N:Qao} {ls:List (List Int)} {s t:Nat} {CA:Option Addr} {NC cC:Nat} {cl:List Int} {Q:Option Addr} {L cq mb bb na:Nat}
theorem QR.le (h:QR V qb g o N ls s t CA NC cC cl Q L cq mb bb na)(hl:Le V W):QR W qb g o N ls s t CA NC cC cl Q L cq mb bb na :=
 ⟨h.gr.le hl,h.ov.le hl,h.part.le hl,h.costs.le hl,hl _ _ h.q0,hl _ _ h.q1,hl _ _ h.q2,hl _ _ h.q3,hl _ _ h.q4,hl _ _ h.q5,hl _ _ h.q6,hl _ _ h.q7⟩
theorem QR.below (h:QR V qb g o N ls s t CA NC cC cl Q L cq mb bb na)(hb:Below V.heap.size V W):QR W qb g o N ls s t CA NC cC cl Q L cq mb bb na:=h.le (Le.below hb)
end
set_option maxHeartbeats 2000000 in
theorem Qoi (w:World)(qb g o:Nat)(N:Qao) (ls:List (List Int)) (s t:Nat) (CA:Option Addr) (NC cC:Nat) (cl:List Int) (Q:Option Addr) (L cq mb bb na a:Nat) (x xs xt:Tri) (h:QR w qb g o N ls s t CA NC cC cl Q L cq mb bb na) (hok:Qat N) (hP:Qay N.vs.length ls) (hx:N.ar[a]?=some x) (hxs:N.ar[s]?=some xs) (hxt:N.ar[t]?=some xt) :
 Calls prog 125 #[.pointer (some ⟨qb,0,none⟩),.int .i64 a] w fun e w'=>e=.returned (.int .i64 ((Qfs ls (toV N a) [toV N s,frV N t]:Nat):Int))∧Below w.heap.size w w':=by
 have HLV:=Zh (show lvI N.vs.length ls x.2.1 xs.2.1 xt.1=((Qfs ls (toV N a) [toV N s,frV N t]:Nat):Int) from by
  have o1:=hok.arcs x (Zm hx);have o2:=hok.arcs xs (Zm hxs);have o3:=hok.arcs xt (Zm hxt);unfold lvI;rw [if_pos ⟨⟨o1.g0,o1.g1⟩,⟨o2.g0,o2.g1⟩,⟨o3.f0,o3.f1⟩⟩,(Qbo hx).1,(Qbo hxs).1,(Qbo hxt).2.1])
 have HTA:=Zh (fun V (hV:Below w.heap.size w V)=>Qhe g a N x V (h.gr.below hV) hx);have HTS:=Zh (fun V (hV:Below w.heap.size w V)=>Qhe g s N xs V (h.gr.below hV) hxs);have HFT:=Zh (fun V (hV:Below w.heap.size w V)=>Qht g t N xt V (h.gr.below hV) hxt);have HLO:=Zh (fun V (hV:Below w.heap.size w V)=>Qlr Q L cq N.vs.length ls x.2.1 xs.2.1 xt.1 V (h.part.below hV) hP)
 have HSX:=Zh (show ∀ V,Below w.heap.size w V→V.cell? ⟨qb,0,none⟩=some (.pointer (some ⟨g,0,none⟩))∧V.cell? ⟨qb,3,none⟩=some (.int .i64 s)∧V.cell? ⟨qb,4,none⟩=some (.int .i64 t)∧V.cell? ⟨qb,5,none⟩=some (.slice Q L cq) from
  fun V hV=>⟨(h.below hV).q0,(h.below hV).q3,(h.below hV).q4,(h.below hV).q5⟩)
 clear h hok hP hx hxs hxt
 go_enter func125,ntmps125
 go_wp2_with fail
 refine wp_region_held_drew (S:=fun V=>Below w.heap.size w V) (by kernel_rfl) (Zr _ _).drew (fun _=>?_);refine tz 0 5 ?_;refine tz 1 6 ?_;refine tz 2 7 ?_;refine tz 3 8 ?_;refine tz 4 9 ?_;refine tz 5 10 ?_;refine tz 6 11 ?_;refine tz 7 12 ?_;refine tz 8 13 ?_;refine tz 10 15 ?_;refine tz 11 16 ?_;refine tz 12 17 ?_;refine tz 13 18 ?_;refine tz 14 19 ?_;refine tz 15 20 ?_;refine tz 16 21 ?_;refine tz 17 22 ?_;refine tz 19 24 ?_;refine tz 20 25 ?_;refine tz 21 26 ?_;refine tz 22 27 ?_;refine tz 23 28 ?_;refine tz 24 29 ?_;refine tz 25 30 ?_;refine tz 26 31 ?_;refine Zk 9 (fun K hK=>?_);go_simp;with_reducible refine (HTA.out _ (Zr _ _).drew).mono ?_
 rintro r w' ⟨rfl,rfl⟩;go_simp;refine hK.out _ _ (Zr _ _).drew (fun _=>?_);clear hK K;refine Zk 18 (fun K hK=>?_);go_simp;with_reducible refine (HTS.out _ (Zr _ _).drew).mono ?_
 rintro r w' ⟨rfl,rfl⟩;go_simp;refine hK.out _ _ (Zr _ _).drew (fun _=>?_);clear hK K;refine Zk 27 (fun K hK=>?_);go_simp;with_reducible refine (HFT.out _ (Zr _ _).drew).mono ?_
 rintro r w' ⟨rfl,rfl⟩;go_simp;refine hK.out _ _ (Zr _ _).drew (fun _=>?_);clear hK K;refine Zk 28 (fun K hK=>?_);go_simp;with_reducible refine (HLO.out _ (Zr _ _).drew).mono ?_
 rintro r w2 ⟨rfl,hb2⟩;rw [HLV.out];have hb2':Below w.heap.size w w2:=(Zr _ _).drew.trans hb2;go_simp;refine hK.out _ _ hb2' (fun _=>?_);clear hK K;refine tz 29 4 ?_;refine Zd ?_;clear hb2 HSX
 go_wp2_with fail
 go_ret
 exact ⟨rfl,hb2'⟩
set_option maxRecDepth 20000 in
set_option maxHeartbeats 1000000 in
theorem Qkw (w:World)(g o:Nat)(N:Qao) (ls:List (List Int)) (s t:Nat) (CA:Option Addr) (NC cC:Nat) (cl:List Int) (hg:Qeu w g N) (ho:Qgk w o N.ar ls) (hc:RdI w CA NC cl) (hok:Qat N) (hP:Qay N.vs.length ls) :
 Calls prog 63 #[.pointer (some ⟨g,0,none⟩),.pointer (some ⟨o,0,none⟩),.slice CA NC cC,.int .i64 s,.int .i64 t] w fun e w'=>∃ qb Q cq mb bb,e=.returned (.pointer (some ⟨qb,0,none⟩)) ∧
  QR (msk w' (fun b=>b<w'.heap.size∧b≠bb∧b≠mb)) qb g o N ls s t CA NC cC cl Q ls.length cq mb bb N.ar.length∧MpQ w' mb 0 (fun _ _=>none)∧Blk w' bb 3 (Qca (List.replicate N.ar.length 0))∧(w.heap.size≤mb∧w.heap.size≤bb∧mb≠bb)∧Below w.heap.size w w':=by
 have HG:=Zh hg;have HO:=Zh ho;have HC:=Zh hc;obtain ⟨na,hna⟩:∃ na,na=N.ar.length:=⟨_,rfl⟩;have hla:na≤16384:=by rw [hna];exact hok.la
 have hmk:=Qdn na (by omega);have HGA:=Zh (fun V (hV:Below w.heap.size w V)=>(show Calls prog 85 #[.pointer (some ⟨g,0,none⟩)] V fun e w'=>e=.returned (.int .i64 na)∧V=w' by rw [hna];exact Qhr g N V (hg.below hV)))
 have HPT:=Zh (Qkr o N.ar ls w ho (by have:=hP.l6;omega) (fun l hl=>by have:=(hP.lvl l hl).len;have:=hok.lv;omega));obtain ⟨L,hL⟩:∃ L,L=ls.length:=⟨_,rfl⟩;rw [←hL] at HPT;rw [←hna,←hL];clear hg ho hc hok hP hna hL
 go_enter func63,ntmps63
 go_wp2_with fail
 with_reducible refine HPT.out.mono ?_
 rintro r w1 ⟨Q,cq,rfl,hQ,hb1⟩;have HQ:=Zh hQ;have hfl:∀ V,(Instr.field 87 (.agg #[.slice Q L cq]) 0).run prog V=.ok (.slice Q L cq) V:=fun V=>by rfl
 have hmm:=@run_makeMap prog;clear hQ HPT
 go_wp2_with fail
 (refine Qad ?_;intro w2 hw2)
 have hb2:Below w1.heap.size w1 w2:=by rw [hw2];exact Qah
 have HM2:=Zh (show MpQ w2 w1.heap.size 0 (fun _ _=>none) by rw [hw2];exact MpQ.new w1)
 clear hw2;have hb12:=Zb hb1 hb2;with_reducible refine (HGA.out w2 hb12).mono ?_
 rintro r w' ⟨rfl,rfl⟩
 go_wp2_with fail
 obtain ⟨bb,hbb⟩:∃ b,b=w2.heap.size:=⟨_,rfl⟩;obtain ⟨mb,hmb⟩:∃ b,b=w1.heap.size:=⟨_,rfl⟩;rw [←hbb,←hmb];rw [←hmb] at HM2;have s12:mb<w2.heap.size:=HM2.out.lt
 have s1:w.heap.size≤mb:=by rw [hmb];exact hb1.size
 obtain ⟨w3,hw3⟩:∃ V,V=w2.alloc (.cells (Qbs (.int .i64 0) na) 3):=⟨_,rfl⟩;rw [←hw3];have hB3:Blk w3 bb 3 (Qca (List.replicate na 0)):=by rw [hw3,←Qcn];exact Blk.new' _ _ _ hbb
 have hb3:Below w2.heap.size w2 w3:=by rw [hw3];exact (Zr _ _).alloc (Zn _) _
 have s3:w3.heap.size=bb+1:=by rw [hw3,World.size_alloc,hbb]
 clear hw3;obtain ⟨w4,hw4⟩:∃ V,V=w3.alloc (.cells #[.pointer (some ⟨g,0,none⟩),.pointer (some ⟨o,0,none⟩),.slice CA NC cC,.int .i64 s,.int .i64 t,.slice Q L cq,.map (some mb),.slice (some ⟨bb,0,none⟩) na na] 220):=⟨_,rfl⟩;rw [←hw4];have hB4:Blk w4 (bb+1) 220 #[.pointer (some ⟨g,0,none⟩),.pointer (some ⟨o,0,none⟩),.slice CA NC cC,.int .i64 s,.int .i64 t,.slice Q L cq,.map (some mb),.slice (some ⟨bb,0,none⟩) na na]:=by rw [hw4];exact Blk.new' _ _ _ s3.symm
 have hb4:Below w3.heap.size w3 w4:=by rw [hw4];exact (Zr _ _).alloc (Zn _) _
 have s4:w4.heap.size=bb+2:=by rw [hw4,World.size_alloc,s3]
 clear hw4;have hb24:=Zb hb3 hb4;have hb14:=Zb hb2 hb24;have hb04:=Zb hb1 hb14;have hle:Le w (msk w4 (fun b=>b<w4.heap.size∧b≠bb∧b≠mb)):=Le.mskBelow hb04 (fun b hb=>⟨by omega,by omega,by omega⟩);have hmk4:∀ i v,w4.cell? ⟨bb+1,i,none⟩=some v→(msk w4 (fun b=>b<w4.heap.size∧b≠bb∧b≠mb)).cell? ⟨bb+1,i,none⟩=some v:=fun i v h=>Qga h ⟨by omega,by omega,by omega⟩
 go_ret
 refine ⟨bb+1,Q,cq,mb,bb,rfl,⟨HG.out.le hle,HO.out.le hle,(HQ.out.le (fun a v h=>?_)),HC.out.le hle,hmk4 _ _ (Zq hB4),hmk4 _ _ (Zq hB4),hmk4 _ _ (Zq hB4),hmk4 _ _ (Zq hB4),hmk4 _ _ (Zq hB4),hmk4 _ _ (Zq hB4),hmk4 _ _ (Zq hB4),hmk4 _ _ (Zq hB4)⟩,HM2.out.below hb24,hB3.below hb4 hB3.lt,⟨s1,by omega,by omega⟩,hb04⟩;obtain ⟨h1,h2⟩:=Qba.1 h;exact Qba.2 ⟨⟨by omega,by omega,by omega⟩,Zc hb14 (Zn _) h2⟩
set_option maxHeartbeats 400000 in
theorem Qed (A:Option Addr)(n c:Nat)(l:List Int)(v:Int)(w:World)(h:RdI w A n l)(hn:n≤1000000000) :
 Calls prog 53 #[.slice A n c,.int .i64 v] w fun e w'=>e=.returned (.int .i64 (plI l v))∧w=w':=by
 have HR:=Zh h;have HL:=Zh h.1;clear h
 go_enter func53,ntmps53
 go_wp2_with fail
 go_loop [5] (fun q=>∃ k:Nat,k≤n∧q=.int .i64 k∧∀ j x,j<k→l[j]?=some x→x≠v) (fun q=>n-(intOf q).toNat)
 case atStart=>exact ⟨0,Nat.zero_le _,rfl,fun _ _ h=>absurd h (Nat.not_lt_zero _)⟩
 case round =>
  obtain ⟨k,hk,rfl,hj⟩:=hrel;have HJ:=Zh hj;clear hj
  by_cases hlt:k<n
  · obtain ⟨b,o,x,rfl,hx,hc⟩:=HR.out.at_ hlt
    have i1:(0:Int)≤(k:Int):=by omega
    have i2:(k:Int)<(n:Int):=by omega
    by_cases e:x=v
    · have HP:=Zh (Qnd (e▸hx) HJ.out)
      have e1:(x == v)=true:=by simpa using e
      have e2:(v == x)=true:=by simpa using e.symm
      clear e hx
      go_wp2_with fail
      go_ret
      exact ⟨Qbz HP.out.symm,rfl⟩
    · have e1:(x == v)=false:=by simpa using e
      have e2:(v == x)=false:=by simpa using (fun h:v=x=>e h.symm)
      have HX:=Zh hx;have HE:=Zh e;clear e hx
      go_wp2_with fail
      go_round
      case rel=>exact ⟨k+1,by omega,by go_num,fun j y hj hy=>by
       by_cases ej:j=k
       · subst ej
         rw [HX.out] at hy
         cases hy
         exact HE.out
       · exact HJ.out j y (by omega) hy⟩
      case measure=>simp [intOf];omega
  · obtain rfl:n=k:=by omega
    have HP:=Zh (Qcj (l:=l) (v:=v) (fun hm=>by
     obtain ⟨j,hj⟩:=List.getElem?_of_mem hm;exact HJ.out j v (by rw [←HL.out];exact (Zs hj).1) hj rfl))
    go_wp2_with fail
    go_ret
    exact ⟨Qbz HP.out.symm,rfl⟩
theorem Qcr (A B C:Option Addr)(n m k c d e:Nat)(a:Int)(w:World)(h0:0≤a)(h1:a<m) :
 Calls prog 40 #[.agg #[.slice A n c,.slice B m d,.slice C k e],.int .i64 a] w fun r w'=>r=.returned (.bool true)∧Below w.heap.size w w':=by
 go_enter func40,ntmps40
 go_wp2
 go_ret
 exact ⟨Qbe (by first|(simp;done)|(simp;omega)),Qah⟩
theorem idx_at {f:Tri→Int}{l:List Tri}{k:Nat}{y:Tri} (h:l[k]?=some y):∀ j,k<j→j≤l.length→(idx f (l.take j) (f y))[(idx f (l.take k) (f y)).length]?=some (k:Int):=by
 intro j
 induction j with
 | zero=>intro h1;omega
 | succ j ih =>
  intro h1 h2;obtain ⟨z,hz⟩:∃ z,l[j]?=some z:=⟨_,Zg (by omega)⟩;rw [Qel hz]
  by_cases e:k=j
  · subst e
    rw [h] at hz
    cases hz
    rw [List.getElem?_append_right (Zn _),Nat.sub_self];simp
  · have:=ih (by omega) (by omega)
    rw [List.getElem?_append_left (Zs this).1];exact this
theorem Qqf {f:Tri→Int}{l:List Tri}{k:Nat}{y:Tri} (h:l[k]?=some y):plI (idx f l (f y)) (k:Int)=((idx f (l.take k) (f y)).length:Nat):=by
 have hk:=(Zs h).1;have h1:=idx_at (f:=f) h l.length hk (Zn _);rw [List.take_length] at h1;refine Qnd h1 (fun j x hj hx=>?_);have hs:=Qlp f (f y) l;rw [List.pairwise_iff_getElem] at hs;obtain ⟨p1,e1⟩:=Zs hx;obtain ⟨p2,e2⟩:=Zs h1;have:=hs j _ p1 p2 hj;omega
set_option maxHeartbeats 1000000 in
theorem Qit (A:Option Addr)(n c:Nat)(t:Qfk)(i o:Nat)(w:World)(h:RdI w A n t.costs)(ht:Qob t) (hi:(i:Int)<t.ins) (ho:(o:Int)<t.outs) :
 Calls prog 67 #[.agg #[.int .i64 t.ins,.int .i64 t.outs,.slice A n c],.int .i64 i,.int .i64 o] w fun e w'=>∃ x,t.costs[i*t.outs.toNat+o]?=some x∧e=.returned (.int .i64 x)∧Below w.heap.size w w':=by
 obtain ⟨p,q,cs⟩:=t;simp only at h hi ho ⊢;have i0:0≤p:=ht.i0;have i16:p≤16:=ht.i16;have o0:0≤q:=ht.o0;have o16:q≤16:=ht.o16;have hm:=Qop i0 i16 o0 o16;have hl:(cs.length:Int)=p*q:=ht.len
 have hk:(i:Int)*q+o<p*q:=by
  have h1:((i:Int)+1)*q≤p*q:=Int.mul_le_mul_of_nonneg_right (by omega) o0;rw [Int.add_mul,Int.one_mul] at h1;omega
 have hk0:0≤(i:Int)*q:=Int.mul_nonneg (by omega) o0;obtain ⟨k,hkk⟩:∃ k:Nat,(k:Int)=(i:Int)*q+o:=⟨((i:Int)*q+o).toNat,by omega⟩
 have hke:i*q.toNat+o=k:=by
  have:((i*q.toNat+o:Nat):Int)=(k:Int):=by
   rw [hkk]
   push_cast
   rw [Int.toNat_of_nonneg o0]
  exact_mod_cast this
 rw [hke];have hkl:k<n:=by rw [←h.1];omega
 obtain ⟨b,oo,x,hA,hx,hc⟩:=h.at_ hkl;subst hA;have e1:IntKind.i64.wrap ((i:Int)*q)=(i:Int)*q:=IntWalk.i64_in _ (by omega);have e2:IntKind.i64.wrap ((i:Int)*q+o)=(k:Int):=by rw [←hkk];exact IntWalk.i64_in _ (by omega)
 have i1:((k:Int))<(n:Int):=by omega
 have i2:¬(p≤(i:Int)):=by omega
 have i3:¬(q≤(o:Int)):=by omega
 have i4:¬((i:Int)<0):=by omega
 have i5:¬((o:Int)<0):=by omega
 have HX:=Zh hx;have hb:=Qam hc;simp only at hb;clear hx hk hm hl hkk hke h ht
 go_enter func67,ntmps67
 go_wp2_with fail
 go_ret
 exact ⟨x,HX.out,rfl,Qah⟩
set_option maxHeartbeats 2000000 in
theorem Qtr (A B C:Option Addr)(n m k c d e:Nat)(N:Qao)(a b:Nat)(x y:Tri)(w:World)(h:Qby w A B C n m k N)(hok:Qat N) (hx:N.ar[a]?=some x) (hy:N.ar[b]?=some y) :
 Calls prog 80 #[.agg #[.slice A n c,.slice B m d,.slice C k e],.int .i64 a,.int .i64 b] w fun r w'=>r=.returned (.int .i64 (Qak N a b))∧Below w.heap.size w w':=by
 have HH:=Zh h;have hm:m≤16384:=by rw [←h.2.1.1];exact hok.la
 have hlm:N.ar.length=m:=h.2.1.1;have hln:N.vs.length=n:=h.1.1;have hn4:=hok.lv;have hla:=(Zs hx).1;have hlb:=(Zs hy).1;have hax:=hok.arcs x (Zm hx);obtain ⟨bb,o,x1,x2,x3,rfl,hx',ax,ay,az⟩:=h.2.1.at_ (i:=a) (by omega);rw [hx] at hx'
 cases hx'
 obtain ⟨bb',o',y1,y2,y3,e',hy',bx,by_,bz⟩:=h.2.1.at_ (i:=b) (by omega)
 cases e'
 rw [hy] at hy'
 cases hy'
 have i1:(0:Int)≤(a:Int):=by omega
 have i2:(a:Int)<(m:Int):=by omega
 have i3:(0:Int)≤(b:Int):=by omega
 have i4:(b:Int)<(m:Int):=by omega
 obtain ⟨v,rfl⟩:∃ v:Nat,x2=(v:Int):=⟨x2.toNat,by have:=hax.g0;simp only at this;omega⟩;have hvn:v<n:=by have:=hax.g1;simp only at this;omega
 obtain ⟨b2,o2,v1,v2,v3,hA2,hv,vx,vy,vz⟩:=h.1.at_ (i:=v) hvn;subst hA2;have hvo:=hok.verts _ (Zm hv);obtain ⟨t,rfl⟩:∃ t:Nat,v3=(t:Int):=⟨v3.toNat,by have:=hvo.t0;simp only at this;omega⟩;have htl:N.ts.length=k:=h.2.2.1;have htk:t<k:=by have:=hvo.t1;simp only at this;omega
 obtain ⟨b3,o3,tb,hA3,htb,t0,t1,AT,nT,cT,t2,hrd,hnT,hcT⟩:=h.2.2.at_ htk;subst hA3;have hto:=hok.tabs tb (Zm htb);have hk:=hok.lt;have hmt:=hok.meet v _ tb hv (by simpa using htb);obtain ⟨i,hi⟩:∃ i:Nat,i=(idx (·.2.1) (N.ar.take a) (v:Int)).length:=⟨_,rfl⟩;have hip:(i:Int)<tb.ins:=by rw [←hmt.1,hi];exact_mod_cast Qgl (f:=(·.2.1)) hx rfl
 obtain ⟨q,hq⟩:∃ q:Nat,q=(idx (·.1) (N.ar.take b) y1).length:=⟨_,rfl⟩;have hqp:y1=(v:Int)→(q:Int)<tb.outs:=fun e=>by rw [←hmt.2,hq,e];exact_mod_cast Qgl (f:=(·.1)) hy e
 have hpi:plI (idx (·.2.1) N.ar (v:Int)) (a:Int)=(i:Int):=by rw [hi];exact Qqf (f:=(·.2.1)) hx
 have hpq:y1=(v:Int)→plI (idx (·.1) N.ar (v:Int)) (b:Int)=(q:Int):=fun e=>by rw [hq,←e];exact Qqf (f:=(·.1)) hy
 have HTN:=Zh (show ∀ z,y1=(v:Int)→tb.costs[i*tb.outs.toNat+q]?=some z→Qak N a b=z from fun z e hz=>by
  unfold Qak;rw [hx,hy];simp only [if_pos e.symm,Int.toNat_natCast,hv,htb,Qgm,←hi,←hq];rw [List.getD_eq_getElem?_getD,hz]
  rfl)
 have i5:(0:Int)≤(v:Int):=by omega
 have i6:(v:Int)<(n:Int):=by omega
 have i7:(0:Int)≤(t:Int):=by omega
 have i8:(t:Int)<(k:Int):=by omega
 have hil:(idx (·.2.1) N.ar (v:Int)).length≤16384:=by have:=Qem (·.2.1) N.ar N.ar.length (v:Int);rw [List.take_length] at this;omega
 have hol:(idx (·.1) N.ar (v:Int)).length≤16384:=by have:=Qem (·.1) N.ar N.ar.length (v:Int);rw [List.take_length] at this;omega
 have HTA:=Zh (fun V (hV:Below w.heap.size w V) (e:y1=(v:Int))=>Qit AT nT cT tb i q V (hrd.below hV) hto hip (hqp e));have HIN:=Zh (fun V (hV:Below w.heap.size w V)=>Qur _ _ _ n m k c d e N (v:Int) V (HH.out.below hV) hm);have HOU:=Zh (fun V (hV:Below w.heap.size w V)=>Qqy _ _ _ n m k c d e N (v:Int) V (HH.out.below hV) hm);have HPI:=Zh hpi;have HPQ:=Zh hpq;have HIL:=Zh hil;have HOL:=Zh hol
 have HMM:=Zh (show (v:Int)≠y1→Qak N a b=1152921504606846976 from fun hne=>by
  unfold Qak;rw [hx,hy];simp only [if_neg hne])
 have HY:=Zh (show ∀ V,Below w.heap.size w V→V.cell? ⟨bb,o+a*3+1,none⟩=some (.int .i64 (v:Int))∧V.cell? ⟨bb,o+b*3,none⟩=some (.int .i64 y1) ∧
  V.cell? ⟨b2,o2+v*3+2,none⟩=some (.int .i64 t) ∧
  V.cell? ⟨b3,o3+t*3,none⟩=some (.int .i64 tb.ins)∧V.cell? ⟨b3,o3+t*3+1,none⟩=some (.int .i64 tb.outs)∧V.cell? ⟨b3,o3+t*3+2,none⟩=some (.slice AT nT cT) from
  fun V hV=>⟨Zc hV (Zn _) ay,Zc hV (Zn _) bx,Zc hV (Zn _) vz,Zc hV (Zn _) t0,Zc hV (Zn _) t1,Zc hV (Zn _) t2⟩)
 clear vx vy vz t0 t1 t2 hrd hip hqp hmt hv htb hi hq hpi hpq hil hol hto hvo hax hok hnT hcT;clear h ax ay az bx by_ bz hx hy
 go_enter func80,ntmps80
 go_wp2_with fail
 (refine Qai ?_;intro w1 hw1)
 have hb1:Below w.heap.size w w1:=by rw [hw1];exact Qah
 have hX:Blk w1 w.heap.size 26 #[.slice (some ⟨b2,o2,none⟩) n c,.slice (some ⟨bb,o,none⟩) m d,.slice (some ⟨b3,o3,none⟩) k e]:=by rw [hw1];exact Blk.new _ _ _
 clear hw1
 have HSX:=Zh (show ∀ V,Below w1.heap.size w1 V→V.cell? ⟨w.heap.size,0,none⟩=some (.slice (some ⟨b2,o2,none⟩) n c)∧V.cell? ⟨w.heap.size,1,none⟩=some (.slice (some ⟨bb,o,none⟩) m d)∧V.cell? ⟨w.heap.size,2,none⟩=some (.slice (some ⟨b3,o3,none⟩) k e)∧_ from
  fun V hV=>⟨by rw [(hX.below hV hX.lt).cell];rfl,by rw [(hX.below hV hX.lt).cell];rfl,by rw [(hX.below hV hX.lt).cell];rfl,HY.out V (Zb hb1 hV)⟩)
 clear HY hX;refine wp_region_held_drew (S:=fun V=>Below w1.heap.size w1 V) (by kernel_rfl) (Zr _ _).drew (fun _=>?_);refine tz 0 8 ?_;refine tz 1 9 ?_;refine Zk 2 (fun K hK=>?_);go_simp;with_reducible refine (Qcr _ _ _ n m k c d e (a:Int) _ i1 i2).mono ?_
 rintro r w2 ⟨rfl,hb2⟩;have hb2':Below w1.heap.size w1 w2:=(Zr _ _).drew.trans hb2;clear hb2;go_simp;refine hK.out _ _ hb2' (fun _=>?_);clear hK K;refine tz 3 11 ?_;refine tz 4 12 ?_;refine tz 5 13 ?_;refine tz 6 14 ?_;refine Zk 7 (fun K hK=>?_);go_simp;with_reducible refine (Qcr _ _ _ n m k c d e (b:Int) _ i3 i4).mono ?_
 rintro r w3 ⟨rfl,hb3⟩;have hb3':=Zb hb2' hb3;clear hb2' hb3;go_simp;refine hK.out _ _ hb3' (fun _=>?_);clear hK K;refine tz 8 16 ?_;refine tz 9 17 ?_;refine tz 10 18 ?_;refine tz 11 19 ?_;refine tz 12 20 ?_;refine tz 13 21 ?_;refine tz 14 22 ?_;refine tz 15 23 ?_;refine tz 16 24 ?_;refine tz 17 25 ?_;refine tz 18 26 ?_;refine tz 19 27 ?_;refine tz 20 28 ?_;refine tz 21 29 ?_;refine tz 22 30 ?_;refine tz 23 31 ?_;refine tz 24 32 ?_;refine Zd ?_
 by_cases hxy:(v:Int)=y1
 rotate_left
 · have e1:((v:Int) != y1)=true:=by simp [hxy]
   have HE:=Zh (HMM.out hxy);clear hxy
   go_wp2_with fail
   go_ret
   rw [HE.out];exact ⟨rfl,Zb hb1 hb3'⟩
 have e1:((v:Int) != y1)=false:=by simp [hxy]
 subst hxy;have HSXO:=HSX;have hc:=HSX.out w3 hb3'
 go_split_ands
 clear HSX;have HSX:=HSXO;clear HSXO
 go_wp2_with fail
 refine wp_region_held_drew (S:=fun V=>Below w1.heap.size w1 V) (by kernel_rfl) hb3'.drew (fun _=>?_);refine tz 0 39 ?_;refine tz 1 40 ?_;refine tz 2 41 ?_;refine tz 3 42 ?_;refine tz 4 43 ?_;refine tz 5 44 ?_;refine tz 6 45 ?_;refine tz 7 46 ?_;refine tz 8 47 ?_;refine tz 9 48 ?_;refine tz 10 49 ?_;refine tz 11 50 ?_;refine tz 13 52 ?_;refine tz 15 54 ?_;refine tz 16 55 ?_;refine tz 18 57 ?_;refine Zk 12 (fun K hK=>?_);go_simp;with_reducible refine (HIN.out _ (Zb hb1 hb3'.drew)).mono ?_
 rintro r w4 ⟨A4,n4,c4,rfl,h4,hb4⟩;have hb4':Below w1.heap.size w1 w4:=Zb hb3'.drew hb4;have H4:=Zh h4;have hn4l:n4≤1000000000:=by have:=HIL.out;have:=h4.1;omega
 clear h4 hb4;go_simp;refine hK.out _ _ hb4' (fun _=>?_);clear hK K;refine Zk 14 (fun K hK=>?_);go_simp;with_reducible refine (Qed A4 n4 c4 _ (a:Int) w4 H4.out hn4l).mono ?_
 rintro r w' ⟨rfl,rfl⟩;rw [HPI.out];go_simp;refine hK.out _ _ hb4' (fun _=>?_);clear hK K;refine Zk 17 (fun K hK=>?_);go_simp;with_reducible refine (HOU.out _ (Zb hb1 hb4')).mono ?_
 rintro r w5 ⟨A5,n5,c5,rfl,h5,hb5⟩;have hb5':Below w1.heap.size w1 w5:=Zb hb4' hb5;have H5:=Zh h5;have hn5l:n5≤1000000000:=by have:=HOL.out;have:=h5.1;omega
 clear h5 hb5;go_simp;refine hK.out _ _ hb5' (fun _=>?_);clear hK K;refine Zk 19 (fun K hK=>?_);go_simp;with_reducible refine (Qed A5 n5 c5 _ (b:Int) w5 H5.out hn5l).mono ?_
 rintro r w' ⟨rfl,rfl⟩;rw [HPQ.out trivial];go_simp;refine hK.out _ _ hb5' (fun _=>?_);clear hK K;refine Zk 20 (fun K hK=>?_);go_simp;with_reducible refine (HTA.out _ (Zb hb1 hb5') trivial).mono ?_
 rintro r w6 ⟨z,hz,rfl,hb6⟩;have hb6':Below w1.heap.size w1 w6:=Zb hb5' hb6;have HZ:=Zh (HTN.out z trivial hz);clear hz hb6;go_simp;refine hK.out _ _ hb6' (fun _=>?_);clear hK K;refine tz 21 6 ?_;refine Zd ?_
 go_wp2_with fail
 go_ret
 rw [HZ.out];exact ⟨rfl,Zb hb1 hb6'⟩
structure BfW (w:World) (D:Nat) (cs:Array Value) (V:World) (d:List Int):Prop where
 bel:Below w.heap.size w V
 box:Blk V w.heap.size 53 cs
 row:Blk V D 2 (Qca d)
 dB:w.heap.size<D
section
variable {w V V':World} {D:Nat} {cs:Array Value} {d:List Int}
theorem BfW.below (h:BfW w D cs V d)(hb:Below V.heap.size V V'):BfW w D cs V' d:=⟨Zb h.bel hb,h.box.below hb h.box.lt,h.row.below hb h.row.lt,h.dB⟩
theorem BfW.set (h:BfW w D cs V d)(b:Nat)(v:Int):BfW w D cs (V.setCell ⟨D,b,none⟩ (.int .i64 v)) (d.set b v) :=
 ⟨h.bel.setCell (by have:=h.dB;simp only;omega) _,h.box.far_ (by have:=h.dB;omega) _,h.row.setI rfl,h.dB⟩
end
theorem BfS.less {N:Qao}{mk:List Bool}{s t k:Nat}{d d':List Int}{best best':Int}(h:BfS N mk s t d best k)(hd:∀ q,dAt d' q≤dAt d q)(hb:best'≤best):BfS N mk s t d' best' k:=fun j q hj hq=>by
 obtain ⟨g1,g2⟩:=h j q hj hq;exact ⟨fun e he=>Int.le_trans (hd q) (g1 e he),fun e=>Int.le_trans hb (g2 e)⟩
set_option maxRecDepth 20000 in
set_option maxHeartbeats 8000000 in
theorem Qpm (A B C NX TX:Option Addr)(n m k c d e cx ct s t:Nat)(N:Qao)(MA:Option Addr)(mc:Nat)(mk:List Bool)(w:World)(h:Qby w A B C n m k N)(hok:Qat N) (hnx:RdT w NX m (Qkq N)) (htx:RdT w TX m (Qjn N)) (hmk:RdB w MA n mk) (hs:s<m) (ht:t<m) :
 Calls prog 143 #[.agg #[.slice A n c,.slice B m d,.slice C k e,.slice NX m cx,.slice TX m ct],.int .i64 s,.int .i64 t,.slice MA n mc] w fun r w'=>(∃ v,r=.returned (.int .i64 v)∧Qfu N mk s t v)∧Below w.heap.size w w':=by
 have HH:=Zh h;have hlm:N.ar.length=m:=h.2.1.1;have hln:N.vs.length=n:=h.1.1;have hm:m≤16384:=by rw [←hlm];exact hok.la
 have HNX:=Zh hnx;have HTX:=Zh htx;have HMK:=Zh hmk;have HLM:=Zh hlm;have HLN:=Zh hln;have i1:(0:Int)≤(s:Int):=by omega
 have i2:(s:Int)<(m:Int):=by omega
 have i3:(0:Int)≤(t:Int):=by omega
 have i4:(t:Int)<(m:Int):=by omega
 have HTB:=Zh (fun a b:Nat=>Qcm hok a b);clear h hnx htx hmk hlm hln
 go_enter func143,ntmps143
 go_wp2_with fail
 (refine Qad ?_;intro w1 hw1)
 have hb1:Below w.heap.size w w1:=by rw [hw1];exact Qah
 have hX1:Blk w1 w.heap.size 53 #[.slice A n c,.slice B m d,.slice C k e,.slice NX m cx,.slice TX m ct]:=by rw [hw1];refine Blk.new' _ _ _ ?_;rfl
 clear hw1;with_reducible refine (Qcr A B C n m k c d e (s:Int) w1 i1 i2).mono ?_
 rintro r w2 ⟨rfl,hb2⟩;have hX2:=hX1.below hb2 hX1.lt;have hb2':=Zb hb1 hb2;clear hb1 hb2 hX1;have x0:w2.cell? ⟨w.heap.size,0,none⟩=some (.slice A n c):=Zq hX2;have x1:w2.cell? ⟨w.heap.size,1,none⟩=some (.slice B m d):=Zq hX2;have x2:w2.cell? ⟨w.heap.size,2,none⟩=some (.slice C k e):=Zq hX2
 go_wp2_with fail
 with_reducible refine (Qcr A B C n m k c d e (t:Int) w2 i3 i4).mono ?_
 rintro r w3 ⟨rfl,hb3⟩;have hX3:=hX2.below hb3 hX2.lt;have hb3':=Zb hb2' hb3;clear hb2' hb3 hX2 x0 x1 x2;have x1:w3.cell? ⟨w.heap.size,1,none⟩=some (.slice B m d):=Zq hX3
 go_wp2_with fail
 with_reducible refine (never_ok m w3 (by omega)).mono ?_
 rintro r w4 ⟨rfl,hD4,hb4⟩;obtain ⟨D,hDe⟩:∃ D,D=w3.heap.size:=⟨_,rfl⟩;rw [←hDe] at hD4 ⊢;have HW4:=Zh (show BfW w D #[.slice A n c,.slice B m d,.slice C k e,.slice NX m cx,.slice TX m ct] w4 (List.replicate m 1152921504606846976) from ⟨Zb hb3' hb4,hX3.below hb4 hX3.lt,hD4,by rw [hDe];exact hX3.lt⟩)
 have HI0:=Zh (BfI.start N mk s t);rw [HLM.out] at HI0;clear hDe hD4 hb4 hb3' hX3 x1
 -- the rows of the start
 have HRW:=Zh (show ∀ a,a<m→∃ nb no na nc tb to_ ta tc,NX=some ⟨nb,no,none⟩∧TX=some ⟨tb,to_,none⟩∧∀ V,Below w.heap.size w V→V.cell? ⟨nb,no+a,none⟩=some (.slice na (Qeg N a).length nc)∧V.cell? ⟨tb,to_+a,none⟩=some (.slice ta (Qeg N a).length tc)∧RdI V na (Qeg N a).length (Qeg N a)∧RdI V ta (Qeg N a).length (Qpw N a) from fun a ha=>by
  obtain ⟨nb,no,na,n1,nc,l1,e1,g1,g2,g3,_,_⟩:=HNX.out.at_ ha;obtain ⟨tb,to_,ta,n2,tc,l2,e2,f1,f2,f3,_,_⟩:=HTX.out.at_ ha;rw [Qus (by rw [HLM.out];exact ha)] at g1
  cases g1
  rw [Qum (by rw [HLM.out];exact ha)] at f1
  cases f1
  have q1:n1=(Qeg N a).length:=g3.1.symm;have q2:n2=(Qeg N a).length:=by rw [←trn_len];exact f3.1.symm
  subst q1;rw [q2] at f2 f3;exact ⟨nb,no,na,nc,tb,to_,ta,tc,e1,e2,fun V hV=>⟨Zc hV (Zn _) g2,Zc hV (Zn _) f2,g3.below hV,f3.below hV⟩⟩)
 obtain ⟨nb,no,na,nc,tb,to_,ta,tc,rfl,rfl,hrow⟩:=HRW.out s hs;have HS:=Zh hrow;obtain ⟨ln,hlne⟩:∃ ln,ln=(Qeg N s).length:=⟨_,rfl⟩;rw [←hlne] at HS;have hln4:ln≤16384:=by rw [hlne];have:=Qyg N s;have:=HLM.out;omega
 have HLE:=Zh hlne;clear hrow hlne
 go_wp2_with fail
 go_loopw [10,11] (fun ub uk V=>∃ (kk:Nat) (dl:List Int) (best:Int),kk≤ln∧uk=.int .i64 kk∧ub=.int .i64 best∧BfW w D #[.slice A n c,.slice B m d,.slice C k e,.slice (some ⟨nb,no,none⟩) m cx,.slice (some ⟨tb,to_,none⟩) m ct] V dl∧BfI N mk s t dl best∧BfS N mk s t dl best kk) (fun _ uk _=>ln-(intOf uk).toNat)
 case atStart=>exact ⟨0,_,_,Nat.zero_le _,rfl,rfl,HW4.out,HI0.out,fun j b hj=>absurd hj (Nat.not_lt_zero _)⟩
 case round =>
  obtain ⟨kk,dl,best,hkk,rfl,rfl,hW,hI,hS⟩:=hrel;have HW:=Zh hW;have HI:=Zh hI;have HSS:=Zh hS;obtain ⟨r1,r2,r3,r4⟩:=HS.out wr hW.bel;have x3:wr.cell? ⟨w.heap.size,3,none⟩=some (.slice (some ⟨nb,no,none⟩) m cx):=Zq hW.box;have x4:wr.cell? ⟨w.heap.size,4,none⟩=some (.slice (some ⟨tb,to_,none⟩) m ct):=Zq hW.box;have x1:wr.cell? ⟨w.heap.size,1,none⟩=some (.slice B m d):=Zq hW.box;have hXl:=hW.box.lt
  by_cases hlt:kk<ln
  · obtain ⟨b,hb1,hb2,hb3,hb4⟩:=nxt_at (N:=N) (a:=s) (k:=kk) (by rw [←HLE.out];exact hlt)
    obtain ⟨ab,ao,z1,rfl,hz1,c1⟩:=r3.at_ hlt;rw [hb1] at hz1
    cases hz1
    obtain ⟨bb,bo,z2,rfl,hz2,c2⟩:=r4.at_ hlt;rw [hb2] at hz2
    cases hz2
    obtain ⟨⟨yu,yv,z⟩,hy⟩:∃ y,N.ar[b]?=some y:=⟨_,Zg hb4⟩;have ho:=hok.arcs _ (Zm hy);have f0:=ho.f0;have f1:=ho.f1;have g0:=ho.g0;have g1:=ho.g1;have hzw:=Qdl ho.w;simp only at f0 f1 g0 g1 hzw;rw [HLN.out] at f1 g1;obtain ⟨u,rfl⟩:∃ u:Nat,yu=(u:Int):=⟨yu.toNat,by omega⟩;obtain ⟨v,rfl⟩:∃ v:Nat,yv=(v:Int):=⟨yv.toNat,by omega⟩;have hun:u<n:=by omega
    have hvn:v<n:=by omega
    have j1:(kk:Int)<(ln:Int):=by omega
    have j2:(b:Int)<(m:Int):=by have:=HLM.out;omega
    have HB1:=Zh hb1;have HTR:=Zh hb2;have HB3:=Zh hb3;have HY:=Zh hy;have HZW:=Zh hzw;obtain ⟨yb,yo,rfl,y0,y1,y2⟩:=(HH.out.below hW.bel).2.1.2 b _ hy;simp only at y0 y1 y2;have hub:=(HTB.out s b).resolve_left hb3;have HUB:=Zh hub;clear hW hI hS hb1 hb2 hb3 hy r3 r4 ho f0 f1 g0 g1 hzw
    have key:((((b:Int) == (t:Int))=true)∧(Qak N s b<best∧min best (Qak N s b)=Qak N s b)∧Hid (BfI N mk s t dl (Qak N s b))∧Hid (Qak N s b≤best∧(b=t→Qak N s b≤Qak N s b)))∨((((b:Int) == (t:Int))=true)∧(¬Qak N s b<best∧min best (Qak N s b)=best)∧Hid (BfI N mk s t dl best)∧Hid (best≤best∧(b=t→best≤Qak N s b)))∨((((b:Int) == (t:Int))=false)∧True∧Hid (BfI N mk s t dl best)∧Hid (best≤best∧(b=t→best≤Qak N s b))):=by
     by_cases hbt:b=t
     · have e1:((b:Int) == (t:Int))=true:=by simp;omega
       by_cases hmn:Qak N s b<best
       · exact .inl ⟨e1,⟨hmn,by omega⟩,Zh (by have:=HI.out.dir1 hok HB3.out hbt;unfold Quc at this;rwa [if_pos hmn] at this),Zh ⟨by omega,fun _=>Int.le_refl _⟩⟩
       · exact .inr (.inl ⟨e1,⟨hmn,by omega⟩,Zh HI.out,Zh ⟨Int.le_refl _,fun _=>by omega⟩⟩)
     · exact .inr (.inr ⟨by simp;omega,trivial,Zh HI.out,Zh ⟨Int.le_refl _,fun e=>absurd e hbt⟩⟩)
    obtain ⟨e1,⟨hmn,hmin⟩,HBI,HB2⟩|⟨e1,⟨hmn,hmin⟩,HBI,HB2⟩|⟨e1,hmn,HBI,HB2⟩:=key
    all_goals as_aux_lemma =>
     go_wp2_with fail
     (refine Qad ?_;intro w5 hw5)
     have hb5:Below wr.heap.size wr w5:=by rw [hw5];exact Qah
     have hA5:Blk w5 wr.heap.size 152 #[.int .i64 u,.int .i64 v,.int .i64 z]:=by rw [hw5];exact Blk.new _ _ _
     clear hw5;have HW5:=Zh (HW.out.below hb5);clear r1 r2 c1 c2 y0 y1 y2 x1 x3 x4 hb5;have a0:w5.cell? ⟨wr.heap.size,0,none⟩=some (.int .i64 u):=Zq hA5;have a1:w5.cell? ⟨wr.heap.size,1,none⟩=some (.int .i64 v):=Zq hA5;have a2:w5.cell? ⟨wr.heap.size,2,none⟩=some (.int .i64 z):=Zq hA5;with_reducible refine (Qek MA n mc u mk w5 (HMK.out.below HW5.out.bel) hun).mono ?_
     rintro r w' ⟨rfl,rfl⟩
     cases hmu:mk.getD u false with
     | false =>
      have HSN:=Zh (HSS.out.next HB1.out (fun q=>Int.le_refl _) HB2.out.1 (fun e he=>absurd ((Qkx HY.out).1 he).2.2.1.1 (by simp only [Int.toNat_natCast];rw [hmu];decide)) HB2.out.2);clear hmu a0 a1 a2
      go_wp2_with fail
      go_roundw
      case rel=>exact ⟨kk+1,dl,_,by omega,by go_num,rfl,HW5.out,HBI.out,HSN.out⟩
      case measure=>simp [intOf];omega
     | true =>
      have HMU:=Zh hmu;clear hmu
      go_wp2_with fail
      with_reducible refine (Qek MA n mc v mk w5 (HMK.out.below HW5.out.bel) hvn).mono ?_
      rintro r w' ⟨rfl,rfl⟩
      cases hmv:mk.getD v false with
      | false =>
       have HSN:=Zh (HSS.out.next HB1.out (fun q=>Int.le_refl _) HB2.out.1 (fun e he=>absurd ((Qkx HY.out).1 he).2.2.1.2 (by simp only [Int.toNat_natCast];rw [hmv];decide)) HB2.out.2);clear hmv a0 a1 a2
       go_wp2_with fail
       go_roundw
       case rel=>exact ⟨kk+1,dl,_,by omega,by go_num,rfl,HW5.out,HBI.out,HSN.out⟩
       case measure=>simp [intOf];omega
      | true =>
       have HWI:=Zh (show Wi mk ((u:Int),(v:Int),z) from ⟨by simp only [Int.toNat_natCast];exact HMU.out,by simp only [Int.toNat_natCast];exact hmv⟩)
       clear hmv
       by_cases hzi:z=1152921504606846976
       · have HSN:=Zh (HSS.out.next HB1.out (fun q=>Int.le_refl _) HB2.out.1 (fun e he=>absurd hzi ((Qkx HY.out).1 he).2.1) HB2.out.2)
         subst hzi;clear a0 a1
         go_wp2_with fail
         go_roundw
         case rel=>exact ⟨kk+1,dl,_,by omega,by go_num,rfl,HW5.out,HBI.out,HSN.out⟩
         case measure=>simp [intOf];omega
       · have e2:(z != 1152921504606846976)=true:=by simpa using hzi
         have HZI:=Zh hzi;clear hzi;obtain ⟨r1,r2,r3,r4⟩:=HS.out w5 HW5.out.bel;obtain ⟨bb',bo',eb,c2⟩:=r4.2 kk _ HTR.out
         cases eb
         obtain ⟨dx,hdx⟩:∃ dx,dl[b]?=some dx:=⟨_,Zg (by rw [HI.out.len,HLM.out];omega)⟩;have d0:=HW5.out.row.cellI hdx;have df:=HW5.out.row.frozen b;have x4:w5.cell? ⟨w.heap.size,4,none⟩=some (.slice (some ⟨tb,to_,none⟩) m ct):=Zq HW5.out.box;have hzb:=HZW.out.resolve_left HZI.out;have HAD:=Zh (fun V=>Qfg (Qak N s b) z V (by have:=HUB.out;omega) (by omega));have hd2:=HBI.out.dir2 hok HY.out HB3.out HZI.out HWI.out;rw [Qea hdx] at hd2;have HD2:=Zh hd2;have HDX:=Zh hdx;clear r1 r3 r4 hdx hzb hd2 a0 a1
         go_wp2_with fail
         refine Qbj 19 (S:=fun V=>V=w5.drew) (by kernel_rfl) rfl (fun _=>?_);refine tkF 0 89 (h:=⟨_,tv,?_⟩);simp only [pE,List.set];refine tkF 1 90 (h:=⟨_,tv,?_⟩);simp only [pE,List.set];refine tkF 2 91 (h:=⟨_,tv,?_⟩);simp only [pE,List.set];refine tkF 3 92 (h:=⟨_,tv,?_⟩);simp only [pE,List.set];refine tkF 4 93 (h:=⟨_,tv,?_⟩);simp only [pE,List.set];refine tkK 5 94 (h:=⟨_,tv,?_⟩);simp only [pE,List.set];refine tkF 6 95 (h:=⟨_,tv,?_⟩);simp only [pE,List.set];refine tkK 7 96 (h:=⟨_,tv,?_⟩);simp only [pE,List.set];refine tkF 8 97 (h:=⟨_,tv,?_⟩);simp only [pE,List.set];refine tkF 9 98 (h:=⟨_,tv,?_⟩);simp only [pE,List.set];refine tkK 10 99 (h:=⟨_,tv,?_⟩);simp only [pE,List.set];refine tkF 11 100 (h:=⟨_,tv,?_⟩);simp only [pE,List.set];refine tkF 12 101 (h:=⟨_,tv,?_⟩);simp only [pE,List.set];refine tkK 13 102 (h:=⟨_,tv,?_⟩);simp only [pE,List.set];refine tkF 14 103 (h:=⟨_,tv,?_⟩);simp only [pE,List.set];refine tkK 15 104 (h:=⟨_,tv,?_⟩);simp only [pE,List.set];refine Qbi (i:=16) (by kernel_rfl) (by rfl) rfl (fun K hK=>?_);go_simp;with_reducible refine (HAD.out _).mono ?_
         rintro e w' ⟨rfl,rfl⟩;go_simp;refine hK.out _ _ rfl (fun _=>?_);clear hK K;refine tkF 17 106 (h:=⟨_,tv,?_⟩);simp only [pE,List.set];refine tkF 18 107 (h:=⟨_,tv,?_⟩);simp only [pE,List.set];refine Qbu (k:=19) (by kernel_rfl) rfl (fun K hK=>?_);go_simp;refine hK.out _ _ ?_;clear hK K;refine Qbp (by kernel_rfl) ?_ _
         first | rw [show (if Qce (Qak N s b) z<dx then Qce (Qak N s b) z else dx)=Quc dx (Qce (Qak N s b) z) from rfl] | rw [show min dx (Qce (Qak N s b) z)=Quc dx (Qce (Qak N s b) z) from by unfold Quc;split <;> omega]
         have hbl:b<dl.length:=(Zs HDX.out).1
         have hmi:Quc dx (Qce (Qak N s b) z)≤dx∧Quc dx (Qce (Qak N s b) z)≤Qce (Qak N s b) z:=by unfold Quc;split <;> omega
         have HW6:=Zh ((HW5.out.set b (Quc dx (Qce (Qak N s b) z))).below (Zr _ _).drew)
         have HSN:=Zh (HSS.out.next HB1.out (d':=dl.set b (Quc dx (Qce (Qak N s b) z))) (fun q=>by
          rw [Qqa hbl]
          split
          · rename_i e;rw [←e,Qea HDX.out];exact hmi.1
          · exact Int.le_refl _) HB2.out.1 (fun e he=>by
          have:=((Qkx HY.out).1 he).2.2.2;simp only at this;have h2:=HD2.out.1;rw [Qqa hbl,if_pos rfl];omega) HB2.out.2)
         clear hbl hmi a2 r2 c2 d0 df x4
         go_wp2_with fail
         go_roundw
         case rel=>exact ⟨kk+1,_,_,by omega,by go_num,rfl,HW6.out,HD2.out.2,HSN.out⟩
         case measure=>simp [intOf];omega
  · obtain rfl:kk=ln:=by omega
    have HSF:=Zh (show BfS N mk s t dl best (Qeg N s).length by rw [←HLE.out];exact hS)
    have j1:¬((kk:Int)<(kk:Int)):=by omega
    clear hI hS r3 r4 HSS
    go_wp2_with fail
    go_loopw [10,14] (fun ub um V=>∃ (dl:List Int) (best:Int) (more:Bool),um=.bool more∧ub=.int .i64 best∧BfW w D #[.slice A n c,.slice B m d,.slice C k e,.slice (some ⟨nb,no,none⟩) m cx,.slice (some ⟨tb,to_,none⟩) m ct] V dl∧BfI N mk s t dl best∧BfS N mk s t dl best (Qeg N s).length∧(more=false→BfR N mk t dl best m 0)) (fun _ um V=>2*Que (rowOf V D)+(match um with|.bool true=>1|_=>0))
    case atStart=>exact ⟨dl,best,true,rfl,rfl,HW.out,HI.out,HSF.out,fun h=>by cases h⟩
    case round =>
     clear HW HI HSF;obtain ⟨dl,best,more,rfl,rfl,hW,hI,hS,hR⟩:=hrel;have HW:=Zh hW;have HI:=Zh hI;have HSS:=Zh hS
     cases more with
     | false =>
      have hfin:=hI.fin hok hS (by rw [HLM.out];exact hR rfl);clear hW hI hS hR
      go_wp2_with fail
      go_ret
      exact ⟨⟨best,rfl,hfin⟩,HW.out.bel⟩
     | true =>
      clear hW hI hS hR
      go_wp2_with fail
      obtain ⟨wo,hwo⟩:∃ wo,wo=wr:=⟨_,rfl⟩;subst hwo
      go_loopw [10,14,15] (fun ub um ua V=>∃ (dl2:List Int) (best2:Int) (more:Bool) (a:Nat),a≤m∧um=.bool more∧ub=.int .i64 best2∧ua=.int .i64 a∧BfW w D #[.slice A n c,.slice B m d,.slice C k e,.slice (some ⟨nb,no,none⟩) m cx,.slice (some ⟨tb,to_,none⟩) m ct] V dl2∧BfI N mk s t dl2 best2∧BfS N mk s t dl2 best2 (Qeg N s).length∧Que dl2≤Que dl∧(more=true→Que dl2<Que dl)∧(more=false→BfR N mk t dl2 best2 a 0)) (fun _ _ ua _=>m-(intOf ua).toNat)
      case atStart=>exact ⟨dl,best,false,0,Nat.zero_le _,rfl,rfl,rfl,HW.out,HI.out,HSS.out,Zn _,(fun h=>by cases h),fun _ p j b hp=>by omega⟩
      case round =>
       obtain ⟨dl2,best2,more,a,ha,rfl,rfl,rfl,hW2,hI2,hS2,hle2,hlt2,hR2⟩:=hrel;have HW2:=Zh hW2;have HI2:=Zh hI2;have HS2:=Zh hS2;have HR2:=Zh hR2;have HLT2:=Zh hlt2
       by_cases ham:a<m
       rotate_left
       · obtain rfl:a=m:=by omega
         have j2:¬((a:Int)<(a:Int)):=by omega
         have hm1:=Qpk HW.out.row;have hm2:=Qpk hW2.row;clear hW2 hI2 hS2 hR2 hlt2
         go_wp2_with fail
         go_roundw
         case rel=>exact ⟨dl2,best2,more,rfl,rfl,HW2.out,HI2.out,HS2.out,HR2.out⟩
         case measure =>
          rw [hm1,hm2]
          cases more with
          | false=>simp;omega
          | true=>have:=HLT2.out rfl;simp;omega
       · obtain ⟨nb2,no2,na2,nc2,tb2,to2,ta2,tc2,e1,e2,hrow⟩:=HRW.out a ham
         cases e1
         cases e2
         have HS3:=Zh hrow;obtain ⟨ln2,hlne⟩:∃ ln2,ln2=(Qeg N a).length:=⟨_,rfl⟩;rw [←hlne] at HS3;have hln5:ln2≤16384:=by rw [hlne];have:=Qyg N a;have:=HLM.out;omega
         have HLE2:=Zh hlne;have j1:(a:Int)<(m:Int):=by omega
         have j0:(0:Int)≤(a:Int):=by omega
         clear hrow hlne hW2 hI2 hS2 hR2 hlt2
         go_wp2_with fail
         go_loopw [10,14,16] (fun ub um uk V=>∃ (kk:Nat) (dl3:List Int) (best3:Int) (more3:Bool),kk≤ln2∧uk=.int .i64 kk∧um=.bool more3∧ub=.int .i64 best3∧BfW w D #[.slice A n c,.slice B m d,.slice C k e,.slice (some ⟨nb,no,none⟩) m cx,.slice (some ⟨tb,to_,none⟩) m ct] V dl3∧BfI N mk s t dl3 best3∧BfS N mk s t dl3 best3 (Qeg N s).length∧Que dl3≤Que dl∧(more3=true→Que dl3<Que dl)∧(more3=false→BfR N mk t dl3 best3 a kk)) (fun _ _ uk _=>ln2-(intOf uk).toNat)
         case atStart=>exact ⟨0,dl2,best2,more,Nat.zero_le _,rfl,rfl,rfl,HW2.out,HI2.out,HS2.out,hle2,HLT2.out,HR2.out⟩
         case round =>
          obtain ⟨kk,dl3,best3,more3,hkk,rfl,rfl,rfl,hW3,hI3,hS3,hle3,hlt3,hR3⟩:=hrel;have HW3:=Zh hW3;have HI3:=Zh hI3;have HBS3:=Zh hS3;have HLE3:=Zh hle3;have HLT3:=Zh hlt3;have HR3:=Zh hR3;obtain ⟨r1,r2,r3,r4⟩:=HS3.out wr hW3.bel;have x3:wr.cell? ⟨w.heap.size,3,none⟩=some (.slice (some ⟨nb,no,none⟩) m cx):=Zq hW3.box;have x4:wr.cell? ⟨w.heap.size,4,none⟩=some (.slice (some ⟨tb,to_,none⟩) m ct):=Zq hW3.box;have hXl:=hW3.box.lt;obtain ⟨da,hda⟩:∃ da,dl3[a]?=some da:=⟨_,Zg (by rw [HI3.out.len,HLM.out];exact ham)⟩;have d0:=hW3.row.cellI hda;have HDA:=Zh hda;clear hW3 hI3 hS3 hle3 hlt3 hR3 hda HW2 HI2 HS2 HR2 HLT2 hle2
          by_cases hlt:kk<ln2
          rotate_left
          · obtain rfl:kk=ln2:=by omega
            have j2:¬((kk:Int)<(kk:Int)):=by omega
            have HEX:=Zh (fun h=>(HR3.out h).up (.inl (by rw [←HLE2.out];exact Zn _)));clear r3 r4
            go_wp2_with fail
            go_roundw
            case rel=>exact ⟨dl3,best3,more3,a+1,by omega,rfl,rfl,by go_num,HW3.out,HI3.out,HBS3.out,HLE3.out,HLT3.out,HEX.out⟩
            case measure=>simp [intOf];omega
          have j2:(kk:Int)<(ln2:Int):=by omega
          by_cases hdl:da<1152921504606846976
          rotate_left
          · have HEX:=Zh (fun h=>(HR3.out h).up (.inr (by rw [Qea HDA.out];exact hdl)))
            clear r3 r4
            go_wp2_with fail
            go_roundw
            case rel=>exact ⟨dl3,best3,more3,a+1,by omega,rfl,rfl,by go_num,HW3.out,HI3.out,HBS3.out,HLE3.out,HLT3.out,HEX.out⟩
            case measure=>simp [intOf];omega
          obtain ⟨b,hb1,hb2,hb3,hb4⟩:=nxt_at (N:=N) (a:=a) (k:=kk) (by rw [←HLE2.out];exact hlt);obtain ⟨ab,ao,z1,rfl,hz1,c1⟩:=r3.at_ hlt;rw [hb1] at hz1
          cases hz1
          obtain ⟨bb,bo,z2,rfl,hz2,c2⟩:=r4.at_ hlt;rw [hb2] at hz2
          cases hz2
          obtain ⟨⟨yu,yv,z⟩,hy⟩:∃ y,N.ar[b]?=some y:=⟨_,Zg hb4⟩;have ho:=hok.arcs _ (Zm hy);have f0:=ho.f0;have f1:=ho.f1;have g0:=ho.g0;have g1:=ho.g1;have hzw:=Qdl ho.w;simp only at f0 f1 g0 g1 hzw;rw [HLN.out] at f1 g1;obtain ⟨u,rfl⟩:∃ u:Nat,yu=(u:Int):=⟨yu.toNat,by omega⟩;obtain ⟨v,rfl⟩:∃ v:Nat,yv=(v:Int):=⟨yv.toNat,by omega⟩;have hun:u<n:=by omega
          have hvn:v<n:=by omega
          have j3:(0:Int)≤(kk:Int):=by omega
          have j4:(b:Int)<(m:Int):=by have:=HLM.out;omega
          have j5:(0:Int)≤(b:Int):=by omega
          have hz0:0≤z:=by omega
          have hz9:z≤1152921504606846976:=by omega
          have hda0:0≤da:=by
           rcases HI3.out.at_ a with h|⟨h,_,_⟩ <;> rw [Qea HDA.out] at h <;> omega
          have hub:=(HTB.out a b).resolve_left hb3;have hub9:Qak N a b≤1152921504606846976:=by omega
          have hcb:=Qhd hda0 hub.1;have HAD:=Zh (fun V=>Qfg da (Qak N a b) V ⟨hda0,by omega⟩ ⟨hub.1,hub9⟩);obtain ⟨cc,hcc⟩:∃ cc,cc=Qce da (Qak N a b):=⟨_,rfl⟩;rw [←hcc] at hcb;have HAZ:=Zh (fun V=>Qfg cc z V ⟨hcb.1,hcb.2.1⟩ ⟨hz0,hz9⟩);have HCC:=Zh hcc;have HCD:=Zh (show Qce (dAt dl3 a) (Qak N a b)=cc by rw [Qea HDA.out];exact hcc.symm)
          have HDI:=Zh (show dAt dl3 a<1152921504606846976 by rw [Qea HDA.out];exact hdl)
          have HD0:=Zh (show 0≤dAt dl3 a by rw [Qea HDA.out];exact hda0)
          obtain ⟨db,hdb⟩:∃ db,dl3[b]?=some db:=⟨_,Zg (by rw [HI3.out.len];exact hb4)⟩;have HDB:=Zh hdb;have HZ0:=Zh (show 0≤(((u:Int),(v:Int),z):Tri).2.2 from hz0)
          have HB1:=Zh hb1;have HB3:=Zh hb3;have HY:=Zh hy;clear hb1 hb2 hb3 hb4 hy r3 r4 ho f0 f1 g0 g1 hzw hub hub9 hcc hdb hcb
          go_wp2_with fail
          refine wp_region_held_drew (S:=fun V=>V=wr.drew) (by kernel_rfl) rfl (fun _=>?_);refine tz 0 140 ?_;refine tz 1 141 ?_;refine tz 2 142 ?_;refine tz 3 143 ?_;refine tz 4 144 ?_;refine tz 5 145 ?_;refine tz 6 146 ?_;refine tz 7 147 ?_;refine tz 8 148 ?_;refine tz 9 149 ?_;refine tz 10 150 ?_;refine tz 11 151 ?_;refine Zk 12 (fun K hK=>?_);go_simp;with_reducible refine (HAD.out _).mono ?_
          rintro r w' ⟨rfl,rfl⟩;rw [←HCC.out];go_simp;refine hK.out _ _ rfl (fun _=>?_);clear hK K;refine tz 13 18 ?_;refine Zd ?_;obtain ⟨w4,hw4⟩:∃ w4,w4=wr.drew:=⟨_,rfl⟩;rw [←hw4];have hb4:Below wr.heap.size wr w4:=by rw [hw4];exact (Zr _ _).drew
          have HW4:=Zh (HW3.out.below hb4);clear hw4 hb4 HAD r1 r2 c1 c2 x3 x4 d0 hXl;obtain ⟨yb,yo,rfl,y0,y1,y2⟩:=(HH.out.below HW4.out.bel).2.1.2 b _ HY.out;simp only at y0 y1 y2;have x1:w4.cell? ⟨w.heap.size,1,none⟩=some (.slice (some ⟨yb,yo,none⟩) m d):=Zq HW4.out.box;have hXl:=HW4.out.box.lt
          have key:((((b:Int) == (t:Int))=true)∧cc<best3∧Hid (BfI N mk s t dl3 cc)∧Hid (BfS N mk s t dl3 cc (Qeg N s).length)∧Hid (more3=false→BfR N mk t dl3 cc a kk)∧Hid (b=t→cc≤cc))∨((((b:Int) == (t:Int))=true)∧¬cc<best3∧Hid (BfI N mk s t dl3 best3)∧Hid (BfS N mk s t dl3 best3 (Qeg N s).length)∧Hid (more3=false→BfR N mk t dl3 best3 a kk)∧Hid (b=t→best3≤cc))∨((((b:Int) == (t:Int))=false)∧True∧Hid (BfI N mk s t dl3 best3)∧Hid (BfS N mk s t dl3 best3 (Qeg N s).length)∧Hid (more3=false→BfR N mk t dl3 best3 a kk)∧Hid (b=t→best3≤cc)):=by
           by_cases hbt:b=t
           · have e3:((b:Int) == (t:Int))=true:=by simp;omega
             by_cases hmn:cc<best3
             · refine .inl ⟨e3,hmn,Zh ?_,Zh (HBS3.out.less (fun q=>Int.le_refl _) (Int.le_of_lt hmn)),Zh (fun h=>(HR3.out h).less (Int.le_of_lt hmn)),Zh (fun _=>Int.le_refl _)⟩
               have:=HI3.out.nb hok HDI.out HB3.out hbt (by rw [HCD.out];exact hmn)
               rwa [HCD.out] at this
             · exact .inr (.inl ⟨e3,hmn,Zh HI3.out,Zh HBS3.out,Zh HR3.out,Zh (fun _=>by omega)⟩)
           · exact .inr (.inr ⟨by simp;omega,trivial,Zh HI3.out,Zh HBS3.out,Zh HR3.out,Zh (fun e=>absurd e hbt)⟩)
          obtain ⟨e3,hmn,HBI,HBS,HBR,HBB⟩|⟨e3,hmn,HBI,HBS,HBR,HBB⟩|⟨e3,hmn,HBI,HBS,HBR,HBB⟩:=key
          all_goals as_aux_lemma =>
           clear HI3 HBS3 HR3
           go_wp2_with fail
           (refine Qai ?_;intro w5 hw5)
           have hb5:Below w4.heap.size w4 w5:=by rw [hw5];exact Qah
           have hA5:Blk w5 w4.heap.size 152 #[.int .i64 u,.int .i64 v,.int .i64 z]:=by rw [hw5];exact Blk.new _ _ _
           clear hw5;have HW5:=Zh (HW4.out.below hb5);clear y0 y1 y2 x1 hb5;have a0:w5.cell? ⟨w4.heap.size,0,none⟩=some (.int .i64 u):=Zq hA5;have a1:w5.cell? ⟨w4.heap.size,1,none⟩=some (.int .i64 v):=Zq hA5;have a2:w5.cell? ⟨w4.heap.size,2,none⟩=some (.int .i64 z):=Zq hA5;have d0:=HW5.out.row.cellI HDB.out;have df:=HW5.out.row.frozen b;obtain ⟨m1,hm1⟩:∃ m1,m1=mk.getD u false:=⟨_,rfl⟩;obtain ⟨m2,hm2⟩:∃ m2,m2=mk.getD v false:=⟨_,rfl⟩;have HM1:=Zh (show Calls prog 183 #[.slice MA n mc,.int .i64 u] w5.drew (fun e w'=>e=.returned (.bool m1)∧w5.drew=w') from hm1▸Qek MA n mc u mk w5.drew (HMK.out.below HW5.out.bel.drew) hun)
           have HM2:=Zh (show Calls prog 183 #[.slice MA n mc,.int .i64 v] w5.drew (fun e w'=>e=.returned (.bool m2)∧w5.drew=w') from hm2▸Qek MA n mc v mk w5.drew (HMK.out.below HW5.out.bel.drew) hvn)
           have HE1:=Zh hm1;have HE2:=Zh hm2;clear hm1 hm2 hA5;refine wp_region_held_drew (S:=fun V=>V=w5.drew) (by kernel_rfl) rfl (fun _=>?_);refine tz 0 168 ?_;refine tz 1 169 ?_;refine tz 2 170 ?_;refine Zk 3 (fun K hK=>?_);go_simp;with_reducible refine HM1.out.mono ?_
           rintro r w' ⟨rfl,rfl⟩;go_simp;refine hK.out _ _ rfl (fun _=>?_);clear hK K
           cases m1 with
           | false =>
            refine tz 4 172 ?_;refine tw 5 173 ?_;refine tw 6 174 ?_;refine tw 7 175 ?_;refine tw 8 176 ?_;refine tz 9 177 ?_;refine tz 10 178 ?_;refine tw 11 179 ?_;refine tw 12 180 ?_;refine tw 13 181 ?_;refine tw 14 182 ?_;refine tw 15 183 ?_;refine tw 16 184 ?_;refine tw 17 185 ?_;refine tw 18 186 ?_;refine tw 19 187 ?_;refine tz 20 188 ?_;refine Zd ?_;have HNO:=Zh (show Wi mk ((u:Int),(v:Int),z)→dAt dl3 b≤Qce cc z from fun h=>by have:=h.1;simp only [Int.toNat_natCast] at this;rw [←HE1.out] at this;cases this)
            have HRN:=Zh (fun h=>BfR.nx (y:=((u:Int),(v:Int),z)) hok (HBR.out h) HB1.out HD0.out HB3.out HY.out HZ0.out (by rw [HCD.out];exact HBB.out) (by rw [HCD.out];exact HNO.out));have HW6:=Zh (HW5.out.below (Zr _ _).drew);clear a0 a1 a2 d0 df HM1 HM2
            go_wp2_with fail
            go_roundw
            case rel=>exact ⟨kk+1,dl3,_,more3,by omega,by go_num,rfl,rfl,HW6.out,HBI.out,HBS.out,HLE3.out,HLT3.out,HRN.out⟩
            case measure=>simp [intOf];omega
           | true =>
            refine tz 4 172 ?_;refine tz 5 173 ?_;refine tz 6 174 ?_;refine tz 7 175 ?_;refine Zk 8 (fun K hK=>?_);go_simp;with_reducible refine HM2.out.mono ?_
            rintro r w' ⟨rfl,rfl⟩;go_simp;refine hK.out _ _ rfl (fun _=>?_);clear hK K
            cases m2 with
            | false =>
             refine tz 9 177 ?_;refine tz 10 178 ?_;refine tw 11 179 ?_;refine tw 12 180 ?_;refine tw 13 181 ?_;refine tw 14 182 ?_;refine tw 15 183 ?_;refine tw 16 184 ?_;refine tw 17 185 ?_;refine tw 18 186 ?_;refine tw 19 187 ?_;refine tz 20 188 ?_;refine Zd ?_;have HNO:=Zh (show Wi mk ((u:Int),(v:Int),z)→dAt dl3 b≤Qce cc z from fun h=>by have:=h.2;simp only [Int.toNat_natCast] at this;rw [←HE2.out] at this;cases this)
             have HRN:=Zh (fun h=>BfR.nx (y:=((u:Int),(v:Int),z)) hok (HBR.out h) HB1.out HD0.out HB3.out HY.out HZ0.out (by rw [HCD.out];exact HBB.out) (by rw [HCD.out];exact HNO.out));have HW6:=Zh (HW5.out.below (Zr _ _).drew);clear a0 a1 a2 d0 df HM1 HM2
             go_wp2_with fail
             go_roundw
             case rel=>exact ⟨kk+1,dl3,_,more3,by omega,by go_num,rfl,rfl,HW6.out,HBI.out,HBS.out,HLE3.out,HLT3.out,HRN.out⟩
             case measure=>simp [intOf];omega
            | true =>
             refine tz 9 177 ?_;refine tz 10 178 ?_;refine tz 11 179 ?_;refine tz 12 180 ?_;refine tz 13 181 ?_;refine tz 15 183 ?_;refine tz 16 184 ?_;refine tz 17 185 ?_;refine tz 18 186 ?_;refine Zk 14 (fun K hK=>?_);go_simp;with_reducible refine (HAZ.out _).mono ?_
             rintro r w' ⟨rfl,rfl⟩;go_simp;refine hK.out _ _ rfl (fun _=>?_);clear hK K;refine tz 19 187 ?_;refine tz 20 188 ?_;refine Zd ?_
             by_cases hls:Qce cc z<db
             rotate_left
             · have HNO:=Zh (show Wi mk ((u:Int),(v:Int),z)→dAt dl3 b≤Qce cc z from fun _=>by rw [Qea HDB.out];omega)
               have HRN:=Zh (fun h=>BfR.nx (y:=((u:Int),(v:Int),z)) hok (HBR.out h) HB1.out HD0.out HB3.out HY.out HZ0.out (by rw [HCD.out];exact HBB.out) (by rw [HCD.out];exact HNO.out));have HW6:=Zh (HW5.out.below (Zr _ _).drew);clear a0 a1 a2 d0 df HM1 HM2
               go_wp2_with fail
               go_roundw
               case rel=>exact ⟨kk+1,dl3,_,more3,by omega,by go_num,rfl,rfl,HW6.out,HBI.out,HBS.out,HLE3.out,HLT3.out,HRN.out⟩
               case measure=>simp [intOf];omega
             · have HWI:=Zh (show Wi mk ((u:Int),(v:Int),z) from ⟨by simp only [Int.toNat_natCast];exact HE1.out.symm,by simp only [Int.toNat_natCast];exact HE2.out.symm⟩)
               have hnd:=HBI.out.nd (b:=b) (y:=((u:Int),(v:Int),z)) hok HDI.out HB3.out HY.out HZ0.out HWI.out;rw [HCD.out,Qea HDB.out] at hnd;have HND:=Zh (hnd hls);have HSU:=Zh (Qta dl3 b (Qce cc z) db HDB.out HND.out.2 hls)
               have HDS:=Zh (show ∀ q,dAt (dl3.set b (Qce cc z)) q≤dAt dl3 q from fun q=>by
                rw [Qqa (Zs HDB.out).1]
                split
                · rename_i e;rw [←e,Qea HDB.out];omega
                · exact Int.le_refl _)
               have HSN:=Zh (HBS.out.less HDS.out (Int.le_refl _));have HW6:=Zh ((HW5.out.below (Zr _ _).drew).set b (Qce cc z));clear hnd
               go_wp2_with fail
               with_reducible refine (HAZ.out _).mono ?_
               rintro r w' ⟨rfl,rfl⟩
               go_wp2_with fail
               go_roundw
               case rel=>exact ⟨kk+1,_,_,true,by omega,by go_num,rfl,rfl,HW6.out,HND.out.1,HSN.out,by have:=HSU.out;have:=HLE3.out;omega,fun _=>by have:=HSU.out;have:=HLE3.out;omega,fun h=>by cases h⟩
               case measure=>simp [intOf];omega
end Go.Proofs.YteaoiabikjnkeaaGreatDoor
