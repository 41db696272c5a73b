/- Parts of the proof: Mq, AsR, RoI, AsC, AsN, AsO, AsS, AsT. -/
import Derived.Test.YtdheeddnkdhfeaaGreatDoorJ16
import Derived.Maps.OwnSet
import Derived.Maps.OwnOps
import Derived.WideKeyPair
namespace Go.Proofs.YtdheeddnkdhfeaaGreatDoor
open Go.RowKit Go.Maps Go.WideMaps Go.Proofs.Tryz
theorem pr_arr:ArrKey prog 264 3 2:=⟨underlying264,by kernel_rfl,by kernel_rfl,by kernel_rfl⟩
theorem Qnu:Keyed prog 264:=Keyed.of_law pr_arr.law
def kq (x y:Nat):Lit:=.string (keyBytes [.int .i64 (x:Int),.int .i64 (y:Int)])
theorem pr_size:∃ m,Tryz.prog.types.size=m+1:=⟨Tryz.prog.types.size-1,by kernel_rfl⟩
theorem Qtm {x y:Nat}(hx:x≤1000000000000)(hy:y≤1000000000000):keyOf prog 264 (.agg #[.int .i64 (x:Int),.int .i64 (y:Int)])=some (kq x y):=keyOf_pair pr_arr underlying3 pr_size (WalkArith.wf_i64 (by omega)) (WalkArith.wf_i64 (by omega))
theorem kq_ne {x y x' y':Nat}(hx:x≤1000000000000)(hy:y≤1000000000000)(hx':x'≤1000000000000)(hy':y'≤1000000000000) (h:¬(x=x'∧y=y')):kq x y≠kq x' y':=fun e=>by
 have h1:=Qtm hx hy;have h2:=Qtm hx' hy';rw [←e] at h2;have h3:=Qnu.inj h1 h2
 injection h3 with h3
 injection h3 with h3
 injection h3 with a1 a2
 injection a2 with a2 _
 injection a1 with _ a1
 injection a2 with _ a2
 exact h ⟨by omega,by omega⟩
def RV:Value→Option (DataW Value×List MemPlace):=fun v=>some (.held v,[])
def MpQ (W:World)(b n:Nat)(f:Nat→Nat→Option Value):Prop :=
 ∃ D:DataW Value,W.ownsMap prog 264 RV b n D∧IsMap D∧∀ x y:Nat,x≤1000000000000→y≤1000000000000→Maps.has D (kq x y)=(f x y).isSome∧∀ v,f x y=some v→∀ z,D.atKey (kq x y) z=.held v
theorem MpQ.new (w:World):MpQ (w.alloc (.map #[] 0)) w.heap.size 0 (fun _ _=>none) :=
 ⟨.map [],World.ownsMap_made _ _ _ _,isMap_empty,fun x y _ _=>⟨rfl,fun v h=>by cases h⟩⟩
theorem MpQ.lt {W:World}{b n:Nat}{f:Nat→Nat→Option Value}(h:MpQ W b n f):b<W.heap.size:=by
 obtain ⟨D,h1,_⟩:=h;exact h1.lt
theorem MpQ.grown {W W':World}{b n:Nat}{f:Nat→Nat→Option Value}{r:Option Nat}(h:MpQ W b n f)(hg:W.grownBy W' r)(hr:r≠some b):MpQ W' b n f:=by
 obtain ⟨D,h1,h2⟩:=h;exact ⟨D,h1.kept hg (fun e=>hr e.symm),h2⟩
theorem MpQ.below {W W':World}{b n:Nat}{f:Nat→Nat→Option Value}(h:MpQ W b n f)(hb:Below W.heap.size W W'):MpQ W' b n f:=h.grown ⟨hb.os,hb.tape,hb.output,hb.size,fun k hk _=>hb.block k hk⟩ (r:=none) (by simp)
theorem MpQ.set {W:World}{b n g i:Nat}{f:Nat→Nat→Option Value}(h:MpQ W b n f)(hg:g≠b)(v:Value):MpQ (W.setCell ⟨g,i,none⟩ v) b n f:=h.grown (Qaa _ _ _ _) (fun e=>hg (by injection e))
theorem Qze (w:World):(zeroValue 135).run prog w=.ok (.agg #[.slice none 0 0,.slice none 0 0]) w:=by kernel_rfl
section
variable {w:World} {ops:Array Oper} {rest:List Oper} {o:Oper} {a:Act} {Q:Exit→Act→World→Prop} {b n:Nat} {f:Nat→Nat→Option Value}
theorem Qxg (hg:o.guard=none)(m x:Operand)(hop:o.op=Op.lookup 159 m x true)(i k:Nat) (hm:a.eval m=.map (some b)) (h:MpQ w b n f) (hx:a.eval x=.agg #[.int .i64 i,.int .i64 k]) (hi:i≤1000000000000) (hk:k≤1000000000000)
 (hK:wpList prog ops Q rest (a.put o.dst (.tuple #[(f i k).getD (.agg #[.slice none 0 0,.slice none 0 0]),.bool (f i k).isSome])) w):wpList prog ops Q (o::rest) a w:=by
 obtain ⟨D,h1,h2,h3⟩:=h;refine wpList_lookup_own_ok w hg m x 159 hop 264 135 Qnu underlying159 RV (Qze w) _ [] rfl b n D hm h1 _ _ hx (Qtm hi hk) (fun v ps hv=>?_);obtain ⟨g1,g2⟩:=h3 i k hi hk;rw [g1]
 have:v=(f i k).getD (.agg #[.slice none 0 0,.slice none 0 0]):=by
  have hv':DataW.held v=D.atKey (kq i k) (.held (.agg #[.slice none 0 0,.slice none 0 0])):=congrArg Prod.fst (Yv hv)
  cases hf:f i k with
  | none =>
   rw [hf] at g1;rw [atKey_of_not_has g1] at hv'
   injection hv'
  | some u =>
   rw [g2 u hf] at hv'
   injection hv'
 subst this;exact hK
end
end Go.Proofs.YtdheeddnkdhfeaaGreatDoor
namespace Go.Proofs.YtdheeddnkdhfeaaGreatDoor
open Go.RowKit Go.Proofs.Tryz
attribute [local go_sem ↓] Go.wp_at_zero Go.wp_at_succ
structure QR (V:World) (qb g o:Nat) (N:Qak) (ls:List (List Int)) (s t:Nat) (CA:Option Addr) (NC cC:Nat) (cl:List Int) (Q:Option Addr) (L cq mb bb na:Nat):Prop where
 gr:Qen V g N
 ov:Qfw V o N.ar ls
 part:RdT V Q L ls
 costs:RdI V CA NC cl
 q0:V.cell? ⟨qb,0,none⟩=some (.pointer (some ⟨g,0,none⟩))
 q1:V.cell? ⟨qb,1,none⟩=some (.pointer (some ⟨o,0,none⟩))
 q2:V.cell? ⟨qb,2,none⟩=some (.slice CA NC cC)
 q3:V.cell? ⟨qb,3,none⟩=some (.int .i64 s)
 q4:V.cell? ⟨qb,4,none⟩=some (.int .i64 t)
 q5:V.cell? ⟨qb,5,none⟩=some (.slice Q L cq)
 q6:V.cell? ⟨qb,6,none⟩=some (.map (some mb))
 q7:V.cell? ⟨qb,7,none⟩=some (.slice (some ⟨bb,0,none⟩) na na)
section
variable {V W:World} {qb g o:Nat} {N:Qak} {ls:List (List Int)} {s t:Nat} {CA:Option Addr} {NC cC:Nat} {cl:List Int} {Q:Option Addr} {L cq mb bb na:Nat}
theorem QR.le (h:QR V qb g o N ls s t CA NC cC cl Q L cq mb bb na)(hl:Le V W):QR W qb g o N ls s t CA NC cC cl Q L cq mb bb na :=
 ⟨h.gr.le hl,h.ov.le hl,h.part.le hl,h.costs.le hl,hl _ _ h.q0,hl _ _ h.q1,hl _ _ h.q2,hl _ _ h.q3,hl _ _ h.q4,hl _ _ h.q5,hl _ _ h.q6,hl _ _ h.q7⟩
theorem QR.below (h:QR V qb g o N ls s t CA NC cC cl Q L cq mb bb na)(hb:Below V.heap.size V W):QR W qb g o N ls s t CA NC cC cl Q L cq mb bb na:=h.le (Le.below hb)
end
set_option maxHeartbeats 2000000 in
theorem Qpf (w:World)(qb g o:Nat)(N:Qak) (ls:List (List Int)) (s t:Nat) (CA:Option Addr) (NC cC:Nat) (cl:List Int) (Q:Option Addr) (L cq mb bb na a:Nat) (x xs xt:Tri) (h:QR w qb g o N ls s t CA NC cC cl Q L cq mb bb na) (hok:Qas N) (hP:Qbc N.vs.length ls) (hx:N.ar[a]?=some x) (hxs:N.ar[s]?=some xs) (hxt:N.ar[t]?=some xt) :
 Calls prog 105 #[.pointer (some ⟨qb,0,none⟩),.int .i64 a] w fun e w'=>e=.returned (.int .i64 ((Qfy ls (toV N a) [toV N s,frV N t]:Nat):Int))∧Below w.heap.size w w':=by
 have HLV:=Zh (show lvI N.vs.length ls x.2.1 xs.2.1 xt.1=((Qfy ls (toV N a) [toV N s,frV N t]:Nat):Int) from by
  have o1:=hok.arcs x (Zm hx);have o2:=hok.arcs xs (Zm hxs);have o3:=hok.arcs xt (Zm hxt);unfold lvI;rw [if_pos ⟨⟨o1.g0,o1.g1⟩,⟨o2.g0,o2.g1⟩,⟨o3.f0,o3.f1⟩⟩,(Qbq hx).1,(Qbq hxs).1,(Qbq hxt).2.1])
 have HTA:=Zh (fun V (hV:Below w.heap.size w V)=>Qhs g a N x V (h.gr.below hV) hx);have HTS:=Zh (fun V (hV:Below w.heap.size w V)=>Qhs g s N xs V (h.gr.below hV) hxs);have HFT:=Zh (fun V (hV:Below w.heap.size w V)=>Qhw g t N xt V (h.gr.below hV) hxt);have HLO:=Zh (fun V (hV:Below w.heap.size w V)=>Qni Q L cq N.vs.length ls x.2.1 xs.2.1 xt.1 V (h.part.below hV) hP)
 have HSX:=Zh (show ∀ V,Below w.heap.size w V→V.cell? ⟨qb,0,none⟩=some (.pointer (some ⟨g,0,none⟩))∧V.cell? ⟨qb,3,none⟩=some (.int .i64 s)∧V.cell? ⟨qb,4,none⟩=some (.int .i64 t)∧V.cell? ⟨qb,5,none⟩=some (.slice Q L cq) from
  fun V hV=>⟨(h.below hV).q0,(h.below hV).q3,(h.below hV).q4,(h.below hV).q5⟩)
 clear h hok hP hx hxs hxt
 go_enter func105,ntmps105
 go_wp2_with fail
 refine wp_region_held_drew (S:=fun V=>Below w.heap.size w V) (by kernel_rfl) (Zr _ _).drew (fun _=>?_);refine tz 0 5 ?_;refine tz 1 6 ?_;refine tz 2 7 ?_;refine tz 3 8 ?_;refine tz 4 9 ?_;refine tz 5 10 ?_;refine tz 6 11 ?_;refine tz 7 12 ?_;refine tz 8 13 ?_;refine tz 10 15 ?_;refine tz 11 16 ?_;refine tz 12 17 ?_;refine tz 13 18 ?_;refine tz 14 19 ?_;refine tz 15 20 ?_;refine tz 16 21 ?_;refine tz 17 22 ?_;refine tz 19 24 ?_;refine tz 20 25 ?_;refine tz 21 26 ?_;refine tz 22 27 ?_;refine tz 23 28 ?_;refine tz 24 29 ?_;refine tz 25 30 ?_;refine tz 26 31 ?_;refine Zk 9 (fun K hK=>?_);go_simp;with_reducible refine (HTA.out _ (Zr _ _).drew).mono ?_
 rintro r w' ⟨rfl,rfl⟩;go_simp;refine hK.out _ _ (Zr _ _).drew (fun _=>?_);clear hK K;refine Zk 18 (fun K hK=>?_);go_simp;with_reducible refine (HTS.out _ (Zr _ _).drew).mono ?_
 rintro r w' ⟨rfl,rfl⟩;go_simp;refine hK.out _ _ (Zr _ _).drew (fun _=>?_);clear hK K;refine Zk 27 (fun K hK=>?_);go_simp;with_reducible refine (HFT.out _ (Zr _ _).drew).mono ?_
 rintro r w' ⟨rfl,rfl⟩;go_simp;refine hK.out _ _ (Zr _ _).drew (fun _=>?_);clear hK K;refine Zk 28 (fun K hK=>?_);go_simp;with_reducible refine (HLO.out _ (Zr _ _).drew).mono ?_
 rintro r w2 ⟨rfl,hb2⟩;rw [HLV.out];have hb2':Below w.heap.size w w2:=(Zr _ _).drew.trans hb2;go_simp;refine hK.out _ _ hb2' (fun _=>?_);clear hK K;refine tz 29 4 ?_;refine Zd ?_;clear hb2 HSX
 go_wp2_with fail
 go_ret
 exact ⟨rfl,hb2'⟩
set_option maxRecDepth 20000 in
set_option maxHeartbeats 1000000 in
theorem Qlm (w:World)(g o:Nat)(N:Qak) (ls:List (List Int)) (s t:Nat) (CA:Option Addr) (NC cC:Nat) (cl:List Int) (hg:Qen w g N) (ho:Qfw w o N.ar ls) (hc:RdI w CA NC cl) (hok:Qas N) (hP:Qbc N.vs.length ls) :
 Calls prog 46 #[.pointer (some ⟨g,0,none⟩),.pointer (some ⟨o,0,none⟩),.slice CA NC cC,.int .i64 s,.int .i64 t] w fun e w'=>∃ qb Q cq mb bb,e=.returned (.pointer (some ⟨qb,0,none⟩)) ∧
  QR (msk w' (fun b=>b<w'.heap.size∧b≠bb∧b≠mb)) qb g o N ls s t CA NC cC cl Q ls.length cq mb bb N.ar.length∧MpQ w' mb 0 (fun _ _=>none)∧Blk w' bb 3 (Qcs (List.replicate N.ar.length 0))∧(w.heap.size≤mb∧w.heap.size≤bb∧mb≠bb)∧Below w.heap.size w w':=by
 have HG:=Zh hg;have HO:=Zh ho;have HC:=Zh hc;obtain ⟨na,hna⟩:∃ na,na=N.ar.length:=⟨_,rfl⟩;have hla:na≤16384:=by rw [hna];exact hok.la
 have hmk:=Qdo na (by omega);have HGA:=Zh (fun V (hV:Below w.heap.size w V)=>(show Calls prog 99 #[.pointer (some ⟨g,0,none⟩)] V fun e w'=>e=.returned (.int .i64 na)∧V=w' by rw [hna];exact Qhq g N V (hg.below hV)))
 have HPT:=Zh (Qla o N.ar ls w ho (by have:=hP.l6;omega) (fun l hl=>by have:=(hP.lvl l hl).len;have:=hok.lv;omega));obtain ⟨L,hL⟩:∃ L,L=ls.length:=⟨_,rfl⟩;rw [←hL] at HPT;rw [←hna,←hL];clear hg ho hc hok hP hna hL
 go_enter func46,ntmps46
 go_wp2_with fail
 with_reducible refine HPT.out.mono ?_
 rintro r w1 ⟨Q,cq,rfl,hQ,hb1⟩;have HQ:=Zh hQ;have hfl:∀ V,(Instr.field 132 (.agg #[.slice Q L cq]) 0).run prog V=.ok (.slice Q L cq) V:=fun V=>by rfl
 have hmm:=@run_makeMap prog;clear hQ HPT
 go_wp2_with fail
 (refine Qab ?_;intro w2 hw2)
 have hb2:Below w1.heap.size w1 w2:=by rw [hw2];exact Qag
 have HM2:=Zh (show MpQ w2 w1.heap.size 0 (fun _ _=>none) by rw [hw2];exact MpQ.new w1)
 clear hw2;have hb12:=Zb hb1 hb2;with_reducible refine (HGA.out w2 hb12).mono ?_
 rintro r w' ⟨rfl,rfl⟩
 go_wp2_with fail
 obtain ⟨bb,hbb⟩:∃ b,b=w2.heap.size:=⟨_,rfl⟩;obtain ⟨mb,hmb⟩:∃ b,b=w1.heap.size:=⟨_,rfl⟩;rw [←hbb,←hmb];rw [←hmb] at HM2;have s12:mb<w2.heap.size:=HM2.out.lt
 have s1:w.heap.size≤mb:=by rw [hmb];exact hb1.size
 obtain ⟨w3,hw3⟩:∃ V,V=w2.alloc (.cells (Qbv (.int .i64 0) na) 3):=⟨_,rfl⟩;rw [←hw3];have hB3:Blk w3 bb 3 (Qcs (List.replicate na 0)):=by rw [hw3,←Qct];exact Blk.new' _ _ _ hbb
 have hb3:Below w2.heap.size w2 w3:=by rw [hw3];exact (Zr _ _).alloc (Zn _) _
 have s3:w3.heap.size=bb+1:=by rw [hw3,World.size_alloc,hbb]
 clear hw3;obtain ⟨w4,hw4⟩:∃ V,V=w3.alloc (.cells #[.pointer (some ⟨g,0,none⟩),.pointer (some ⟨o,0,none⟩),.slice CA NC cC,.int .i64 s,.int .i64 t,.slice Q L cq,.map (some mb),.slice (some ⟨bb,0,none⟩) na na] 197):=⟨_,rfl⟩;rw [←hw4];have hB4:Blk w4 (bb+1) 197 #[.pointer (some ⟨g,0,none⟩),.pointer (some ⟨o,0,none⟩),.slice CA NC cC,.int .i64 s,.int .i64 t,.slice Q L cq,.map (some mb),.slice (some ⟨bb,0,none⟩) na na]:=by rw [hw4];exact Blk.new' _ _ _ s3.symm
 have hb4:Below w3.heap.size w3 w4:=by rw [hw4];exact (Zr _ _).alloc (Zn _) _
 have s4:w4.heap.size=bb+2:=by rw [hw4,World.size_alloc,s3]
 clear hw4;have hb24:=Zb hb3 hb4;have hb14:=Zb hb2 hb24;have hb04:=Zb hb1 hb14;have hle:Le w (msk w4 (fun b=>b<w4.heap.size∧b≠bb∧b≠mb)):=Le.mskBelow hb04 (fun b hb=>⟨by omega,by omega,by omega⟩);have hmk4:∀ i v,w4.cell? ⟨bb+1,i,none⟩=some v→(msk w4 (fun b=>b<w4.heap.size∧b≠bb∧b≠mb)).cell? ⟨bb+1,i,none⟩=some v:=fun i v h=>Qge h ⟨by omega,by omega,by omega⟩
 go_ret
 refine ⟨bb+1,Q,cq,mb,bb,rfl,⟨HG.out.le hle,HO.out.le hle,(HQ.out.le (fun a v h=>?_)),HC.out.le hle,hmk4 _ _ (Zq hB4),hmk4 _ _ (Zq hB4),hmk4 _ _ (Zq hB4),hmk4 _ _ (Zq hB4),hmk4 _ _ (Zq hB4),hmk4 _ _ (Zq hB4),hmk4 _ _ (Zq hB4),hmk4 _ _ (Zq hB4)⟩,HM2.out.below hb24,hB3.below hb4 hB3.lt,⟨s1,by omega,by omega⟩,hb04⟩;obtain ⟨h1,h2⟩:=Qal.1 h;exact Qal.2 ⟨⟨by omega,by omega,by omega⟩,Zc hb14 (Zn _) h2⟩
structure BfW (w:World) (D:Nat) (cs:Array Value) (V:World) (d:List Int):Prop where
 bel:Below w.heap.size w V
 box:Blk V w.heap.size 50 cs
 row:Blk V D 2 (Qcs d)
 dB:w.heap.size<D
section
variable {w V V':World} {D:Nat} {cs:Array Value} {d:List Int}
theorem BfW.below (h:BfW w D cs V d)(hb:Below V.heap.size V V'):BfW w D cs V' d:=⟨Zb h.bel hb,h.box.below hb h.box.lt,h.row.below hb h.row.lt,h.dB⟩
theorem BfW.set (h:BfW w D cs V d)(b:Nat)(v:Int):BfW w D cs (V.setCell ⟨D,b,none⟩ (.int .i64 v)) (d.set b v) :=
 ⟨h.bel.setCell (by have:=h.dB;simp only;omega) _,h.box.far_ (by have:=h.dB;omega) _,h.row.setI rfl,h.dB⟩
end
theorem Qqz (w:World)(x:Int)(h0:1152921504606846976<x) :
 Calls prog 131 #[.int .i64 x] w fun e w'=>e=.returned (.int .i64 1152921504606846976)∧w=w':=by
 have e1:decide (x<0)=false:=by simp;omega
 have e2:decide (1152921504606846976<x)=true:=by simp;omega
 go_enter func131,ntmps131
 exact Kda
theorem Qef (w:World)(x y:Int)(h0:0≤x∧x≤1152921504606846976)(h1:0≤y∧y≤1152921504606846976) :
 Calls prog 81 #[.int .i64 x,.int .i64 y] w fun e w'=>e=.returned (.int .i64 (Qdz x y))∧w=w':=by
 have HX:=Zh (Qdk w x h0.1 h0.2);have HY:=Zh (Qdk w y h1.1 h1.2)
 have HZ:=Zh (show Calls prog 131 #[.int .i64 (x+y)] w fun e w'=>e=.returned (.int .i64 (Qdz x y))∧w=w' by
  unfold Qdz
  split
  · exact Qqz w (x+y) (by omega)
  · exact Qdk w (x+y) (by omega) (by omega))
 have e1:IntKind.i64.wrap (x+y)=x+y:=IntWalk.i64_in _ (by omega)
 go_enter func81,ntmps81
 exact Kbr
theorem Qym {x:Int}(h:x≤1152921504606846976):Qdz 0 x=x:=by
 unfold Qdz
 split <;> omega
theorem Qsh (A:Option Addr)(c:Nat)(w:World)(x y z:Int) (h:RdI w A 3 [x,y,z]) (h0:0≤x∧x≤1152921504606846976) (h1:0≤y∧y≤1152921504606846976) (h2:0≤z∧z≤1152921504606846976) :
 Calls prog 106 #[.slice A 3 c] w fun e w'=>e=.returned (.int .i64 (Qdz (Qdz x y) z))∧w=w':=by
 obtain ⟨b,o,rfl,c0⟩:=h.2 0 x rfl;obtain ⟨b',o',e',c1⟩:=h.2 1 y rfl
 cases e'
 obtain ⟨b',o',e',c2⟩:=h.2 2 z rfl
 cases e'
 rw [Nat.add_zero] at c0;clear h;have HX:=Zh (show Calls prog 81 #[.int .i64 0,.int .i64 x] w fun e w'=>e=.returned (.int .i64 x)∧w=w' from by have:=Qef w 0 x (by omega) h0;rw [Qym h0.2] at this;exact this)
 have HY:=Zh (Qef w x y h0 h1);have gb:=Qjc h0.1 h1.1;have HZ:=Zh (Qef w (Qdz x y) z ⟨gb.1,gb.2.1⟩ h2);obtain ⟨u,hu⟩:∃ u,u=Qdz x y:=⟨_,rfl⟩;rw [←hu] at HY HZ ⊢;obtain ⟨v,hv⟩:∃ v,v=Qdz u z:=⟨_,rfl⟩;rw [←hv] at HZ ⊢;clear hu hv gb
 go_enter func106,ntmps106
 go_wp2_with fail
 go_loopw [3,8] (fun s i W=>W=w∧((s=.int .i64 0∧i=.int .i64 0)∨(s=.int .i64 x∧i=.int .i64 1)∨(s=.int .i64 u∧i=.int .i64 2)∨(s=.int .i64 v∧i=.int .i64 3))) (fun _ i _=>3-(intOf i).toNat)
 case atStart=>exact ⟨rfl,.inl ⟨rfl,rfl⟩⟩
 case round =>
  obtain ⟨rfl,⟨rfl,rfl⟩|⟨rfl,rfl⟩|⟨rfl,rfl⟩|⟨rfl,rfl⟩⟩:=hrel
  · go_wp2_with fail
    with_reducible refine HX.out.mono ?_
    rintro e w' ⟨rfl,rfl⟩
    go_wp2_with fail
    go_roundw
    case rel=>exact ⟨by trivial,.inr (.inl ⟨rfl,rfl⟩)⟩
    case measure=>simp [intOf]
  · go_wp2_with fail
    with_reducible refine HY.out.mono ?_
    rintro e w' ⟨rfl,rfl⟩
    go_wp2_with fail
    go_roundw
    case rel=>exact ⟨by trivial,.inr (.inr (.inl ⟨rfl,rfl⟩))⟩
    case measure=>simp [intOf]
  · go_wp2_with fail
    with_reducible refine HZ.out.mono ?_
    rintro e w' ⟨rfl,rfl⟩
    go_wp2_with fail
    go_roundw
    case rel=>exact ⟨by trivial,.inr (.inr (.inr ⟨rfl,rfl⟩))⟩
    case measure=>simp [intOf]
  · go_wp2_with fail
    exact Kbd
end Go.Proofs.YtdheeddnkdhfeaaGreatDoor
namespace Go.Proofs.YtdheeddnkdhfeaaGreatDoor
open Go.RowKit Go.Maps Go.WideMaps Go.Proofs.Tryz
attribute [local go_sem ↓] Go.wp_at_zero Go.wp_at_succ
theorem MpQ.at_ {W W':World}{b n:Nat}{f:Nat→Nat→Option Value}(h:MpQ W b n f) (e:W'.heap[b]?=W.heap[b]?):MpQ W' b n f:=by
 obtain ⟨D,⟨es,clock,h1,h2⟩,h3⟩:=h;exact ⟨D,⟨es,clock,e.trans h1,h2⟩,h3⟩
theorem Qrl {w:World}{o:Oper}{a:Act}{K:Act→World→Prop}{Q:Exit→Act→World→Prop}{b n:Nat}{f:Nat→Nat→Option Value}(m x v:Operand)(hop:o.op=Op.mapUpdate 159 m x v)(i k:Nat)(u:Value) (hm:a.eval m=.map (some b)) (h:MpQ w b n f) (hn:n≤1000000000000000000) (hx:a.eval x=.agg #[.int .i64 i,.int .i64 k]) (hv:a.eval v=u) (hi:i≤1000000000000) (hk:k≤1000000000000)
 (hK:∀ w',MpQ w' b (n+1) (fun p q=>if p=i∧q=k then some u else f p q)→w.grownBy w' (some b)→K (a.put o.dst undef) w'):Oper.wp prog o a w K Q:=by
 obtain ⟨D,h1,h2,h3⟩:=h;obtain ⟨w',hrun,g1,g2⟩:=h1.update Qnu underlying159 (by unfold maxLen;omega) (Qtm hi hk) (show RV u=some (.held u,[]) from rfl)
 have hf:=hK w' ⟨_,g1,h2.put _ _,fun p q hp hq=>by
  have hkl:WideAt.IsKeyLit (kq i k):=by simp [WideAt.IsKeyLit,kq]
  by_cases e:p=i∧q=k
  · obtain ⟨rfl,rfl⟩:=e
    simp only [and_self,if_pos];exact ⟨has_put_same h2 hkl _,fun v e z=>by cases e;exact atKey_put_same h2 hkl _ _⟩
  · simp only [if_neg e]
    exact ⟨(has_put_other (kq_ne hp hq hi hk e) _).trans (h3 p q hp hq).1,fun v e2 z=>(atKey_put_other (kq_ne hp hq hi hk e) _ _).trans ((h3 p q hp hq).2 v e2 z)⟩⟩ g2
 unfold Oper.wp;simp [execOp,hop,hm,hx,hv,hrun,Result.andThen];exact hf
def MpC (V:World)(G:Nat→Prop)(ar:List Tri) (ls:List (List Int)) (f:Nat→Nat→Option Value):Prop :=
 ∀ i k u,f i k=some u→∃ j l x A1 n1 c1 A2 n2 c2,i=j+1∧ls[j]?=some l∧(gateRow ar l)[k]?=some x∧u=.agg #[.slice A1 n1 c1,.slice A2 n2 c2]∧RdI (msk V G) A1 n1 x.1∧RdI (msk V G) A2 n2 x.2
theorem MpC.le {V V':World}{G G':Nat→Prop}{ar:List Tri} {ls:List (List Int)} {f:Nat→Nat→Option Value} (h:MpC V G ar ls f) (hl:Le (msk V G) (msk V' G')):MpC V' G' ar ls f:=fun i k u hu=>by
 obtain ⟨j,l,x,A1,n1,c1,A2,n2,c2,h1,h2,h3,h4,h5,h6⟩:=h i k u hu;exact ⟨j,l,x,A1,n1,c1,A2,n2,c2,h1,h2,h3,h4,h5.le hl,h6.le hl⟩
theorem MpC.put {V:World}{G:Nat→Prop}{ar:List Tri} {ls:List (List Int)} {f:Nat→Nat→Option Value} (h:MpC V G ar ls f) {j k:Nat} {l:List Int} {x:Qam} {A1 A2:Option Addr} {n1 n2 c1 c2:Nat} (hl:ls[j]?=some l) (hx:(gateRow ar l)[k]?=some x) (h1:RdI (msk V G) A1 n1 x.1) (h2:RdI (msk V G) A2 n2 x.2) :
 MpC V G ar ls (fun p q=>if p=j+1∧q=k then some (.agg #[.slice A1 n1 c1,.slice A2 n2 c2]) else f p q):=fun p q u hu=>by
 simp only at hu
 by_cases e:p=j+1∧q=k
 · rw [if_pos e] at hu
   cases hu
   obtain ⟨rfl,rfl⟩:=e;exact ⟨j,l,x,A1,n1,c1,A2,n2,c2,rfl,hl,hx,rfl,h1,h2⟩
 · rw [if_neg e] at hu
   exact h p q u hu
structure Nxw (mb:Nat) (w w':World):Prop where
 kept:Qbb (fun b=>b≠mb) w w'
 size:w.heap.size≤w'.heap.size
 bel:∀ B,B≤mb→Below B w w'
theorem Nxw.below {mb:Nat}{w w':World}(h:Below w.heap.size w w')(hm:mb<w.heap.size):Nxw mb w w':=⟨Qbb.below h,h.size,fun B hB=>h.mono (by omega)⟩
theorem Nxw.grown {mb:Nat}{w w':World} (h:w.grownBy w' (some mb)) (hm:mb<w.heap.size):Nxw mb w w':=⟨Qbb.grown h (fun _ hb e=>hb (by injection e with e;exact e.symm)),h.size,fun B hB=>⟨h.os,h.tape,h.output,h.size,fun k hk=>h.block k (by omega) (fun e2=>by injection e2;omega)⟩⟩
theorem Nxw.trans {mb:Nat}{a b c:World}(h:Nxw mb a b)(k:Nxw mb b c):Nxw mb a c:=⟨h.kept.trans k.kept h.size,Yx h.size k.size,fun B hB=>(h.bel B hB).trans (k.bel B hB)⟩
def G2 (G:Nat→Prop)(w w':World):Nat→Prop:=fun b=>G b∨(w.heap.size≤b∧b<w'.heap.size)
theorem G2.le {G:Nat→Prop}{mb:Nat}{w w':World}(h:Nxw mb w w')(hG:¬G mb):Le (msk w G) (msk w' (G2 G w w')) :=
 (Qbb.msk (h.kept.mono (fun _ hb e=>hG (e▸hb)))).trans (Qbe (fun _ hb=>.inl hb))
theorem run_cutG {P:Program}(t e:TypeId) (ht:P.underlying t=some (.slice e)) (he:P.elem t=e) (hs:(P.info? e).map (·.size)=some 1) (A:Option Addr) (n c lo r:Nat) (hlo:lo+r≤c) (h0:0<r) (w:World) :
 (Instr.slice t (.slice A n c) (some (.int .i64 (lo:Int))) (some (.int .i64 ((lo:Int)+(r:Int)))) none).run P w=.ok (.slice (A.map (·.add lo)) r (c-lo)) w:=by
 rw [run_slice_lh (P:=P) w t A n c (by rw [he];exact ht) .i64 .i64 (lo:Int) ((lo:Int)+(r:Int)) (by omega) (by omega) (by omega),he];have e1:((lo:Int)).toNat=lo:=by omega
 have e2:((lo:Int)+(r:Int)).toNat=lo+r:=by omega
 have e3:¬c=lo:=by omega
 rw [e1,e2]
 cases hi:P.info? e with
 | none=>rw [hi] at hs;cases hs
 | some i =>
  rw [hi] at hs;simp at hs;simp [sizeOf,typeInfo,hi,Result.andThen,hs,sliced,e3]
theorem Qun (A:Option Addr)(n c lo r:Nat)(hlo:lo+r≤c)(h0:0<r)(W:World):(Instr.slice 36 (.slice A n c) (some (.int .i64 (lo:Int))) (some (.int .i64 ((lo:Int)+(r:Int)))) none).run prog W=.ok (.slice (A.map (·.add lo)) r (c-lo)) W :=
 run_cutG 36 2 underlying36 (by kernel_rfl) (by kernel_rfl) A n c lo r hlo h0 W
theorem RdI.sub {w:World}{A:Option Addr}{n:Nat}{l:List Int}(h:RdI w A n l)(lo r:Nat)(hr:lo+r≤n):RdI w (A.map (·.add lo)) r ((l.drop lo).take r):=by
 refine ⟨by rw [Yw,List.length_drop,h.1];omega,fun i x hi=>?_⟩;have hir:i<r:=by have:=(Zs hi).1;rw [Yw] at this;omega
 rw [List.getElem?_take_of_lt hir,List.getElem?_drop] at hi;obtain ⟨b,o,rfl,hc⟩:=h.2 _ x hi;refine ⟨b,o+lo,?_,by rw [Nat.add_assoc];exact hc⟩;simp only [Option.map_some,Addr.add]
 split
 · rename_i h0;rw [show lo=0 by omega];rfl
 · rfl
theorem set_take {cs:List Int}{i n:Nat}{z:Int} (h:cs[i]?=some z) (hn:i<n) (hl:cs.length=n):(cs.take i ++List.replicate (n-i) 0).set i z=cs.take (i+1) ++List.replicate (n-(i+1)) 0:=by
 have hl2:(cs.take i).length=i:=by rw [Yw];omega
 rw [List.set_append_right _ _ (by rw [hl2];exact Zn _),hl2,Yy,Yf (by omega),(Zs h).2];obtain ⟨m,hm⟩:∃ m,n-i=m+1:=⟨n-i-1,by omega⟩;rw [hm,show n-(i+1)=m by omega]
 simp [List.replicate_succ]
end Go.Proofs.YtdheeddnkdhfeaaGreatDoor
namespace Go.Proofs.YtdheeddnkdhfeaaGreatDoor
open Go.RowKit Go.Proofs.Tryz
attribute [local go_sem ↓] Go.wp_at_zero Go.wp_at_succ
theorem Own.rdM {w:World}{B n c:Nat}{e:TypeId}{A:Option Addr}{l:List Int}{G:Nat→Prop} (h:Own w B e 1 A n c (Qaf l)) (hG:∀ b,B≤b→b<w.heap.size→G b):RdI (msk w G) A n l:=by
 have hr:=h.rds.rdI;refine ⟨hr.1,fun i x hi=>?_⟩;obtain ⟨b,o,rfl,hc⟩:=hr.2 i x hi;have:=h.lt b rfl;exact ⟨b,o,rfl,Qal.2 ⟨hG b this.1 this.2,hc⟩⟩
theorem Blk.rdM {w:World}{g:Nat}{t:TypeId}{l:List Int}{G:Nat→Prop} (h:Blk w g t (Qcs l)) (hG:G g):RdI (msk w G) (some ⟨g,0,none⟩) l.length l :=
 ⟨rfl,fun i x hi=>⟨g,0,rfl,by rw [Yz];exact Qal.2 ⟨hG,h.cellI hi⟩⟩⟩
set_option maxHeartbeats 2000000 in
theorem next0_ok (w:World)(qb g o:Nat)(N:Qak) (ls:List (List Int)) (s t:Nat) (CA:Option Addr) (NC cC:Nat) (cl:List Int) (Q:Option Addr) (L cq mb bb na a:Nat) (x:Tri) (h:QR w qb g o N ls s t CA NC cC cl Q L cq mb bb na) (hok:Qas N) (hx:N.ar[a]?=some x) :
 Calls prog 104 #[.pointer (some ⟨qb,0,none⟩),.int .i64 0,.int .i64 a] w fun e w'=>∃ (O C:Option Addr) (nO cO cC':Nat),e=.returned (.tuple #[.slice O nO cO,.slice C nO cC']) ∧
  RdI (msk w' (fun b=>w.heap.size≤b∧b<w'.heap.size)) O nO (idx (·.1) N.ar x.2.1)∧RdI (msk w' (fun b=>w.heap.size≤b∧b<w'.heap.size)) C nO ((idx (·.1) N.ar x.2.1).map (fun b=>Qaw N a b.toNat))∧nO≤16384∧Below w.heap.size w w':=by
 obtain ⟨u,v,e1,e2,hu,hv⟩:=Qgj hok hx;obtain ⟨os,hos⟩:∃ os,os=idx (·.1) N.ar x.2.1:=⟨_,rfl⟩;obtain ⟨no,hno⟩:∃ no,no=os.length:=⟨_,rfl⟩
 have hnl:no≤16384:=by
  rw [hno,hos];have:=Qep (·.1) N.ar N.ar.length x.2.1;rw [List.take_length] at this;have:=hok.la;omega
 have HTO:=Zh (Qhs g a N x w h.gr hx);have HOU:=Zh (show Calls prog 153 #[.pointer (some ⟨g,0,none⟩),.int .i64 x.2.1] w fun e w'=>∃ A n c,e=.returned (.slice A n c)∧Own w' w.heap.size 3 1 A n c (Qaf os)∧Below w.heap.size w w' by rw [hos,e2];exact Quf g v N w h.gr hv)
 have HTN:=Zh (fun V (hV:Below w.heap.size w V) (b:Nat) (y:Tri) (hy:N.ar[b]?=some y)=>Qog g a b N x y V (h.gr.below hV) hx hy)
 have HCL:=Zh (show ∀ i b,os[i]?=some b→∃ (n:Nat) (y:Tri),b=(n:Int)∧N.ar[n]?=some y from fun i b hb=>by
  rw [hos] at hb;obtain ⟨n,y,rfl,hy,_⟩:=Qfm.1 (Zm hb);exact ⟨n,y,rfl,hy⟩)
 rw [←hos];obtain ⟨cs,hcs⟩:∃ cs,cs=os.map (fun b=>Qaw N a b.toNat):=⟨_,rfl⟩;rw [←hcs];have HCS:=Zh (show ∀ i n,os[i]?=some ((n:Nat):Int)→cs[i]?=some (Qaw N a n) from fun i n hb=>by rw [hcs,Yt,hb];simp)
 have HLC:=Zh (show cs.length=no by rw [hcs,List.length_map,hno])
 have HNO:=Zh hno;have HQ:=Zh (show ∀ V,Below w.heap.size w V→V.cell? ⟨qb,0,none⟩=some (.pointer (some ⟨g,0,none⟩)) from fun V hV=>(h.below hV).q0)
 have q0:=h.q0;have hmk:=Qfe no (by omega);clear h hok hx hos hno hcs e1 e2 hu hv
 go_enter func104,ntmps104
 go_wp2_with fail
 with_reducible refine HTO.out.mono ?_
 rintro r w' ⟨rfl,rfl⟩
 go_wp2_with fail
 with_reducible refine HOU.out.mono ?_
 rintro r w1 ⟨O,nO,cO,rfl,hO,hb1⟩;obtain rfl:no=nO:=by rw [HNO.out];exact hO.rds.rdI.1
 have HO:=Zh hO;have HB1:=Zh hb1;clear hO hb1 q0
 go_wp2_with fail
 (refine Qai ?_;intro w2 hw2)
 have hb2:Below w1.heap.size w1 w2:=by rw [hw2];exact Qag
 have hC2:Blk w2 w1.heap.size 2 (Qcs (cs.take 0 ++List.replicate (no-0) 0)):=by rw [hw2,List.take_zero,List.nil_append,Nat.sub_zero,←Qct];exact Qay
 have HC2:=Zh hC2;have HB2:=Zh hb2;clear hw2 hC2 hb2
 go_loopw [37] (fun uk V=>∃ kk:Nat,kk≤no∧uk=.int .i64 kk∧Below w1.heap.size w1 V∧Blk V w1.heap.size 2 (Qcs (cs.take kk ++List.replicate (no-kk) 0))) (fun uk _=>no-(intOf uk).toNat)
 case atStart=>exact ⟨0,Nat.zero_le _,rfl,HB2.out,HC2.out⟩
 case round =>
  clear HC2 HB2;obtain ⟨kk,hkk,rfl,hb,hC⟩:=hrel;have HB:=Zh hb;have HC:=Zh hC;have hlt1:=hC.lt
  by_cases hlt:kk<no
  rotate_left
  · obtain rfl:kk=no:=by omega
    have j2:¬((kk:Int)<(kk:Int)):=by omega
    clear hb hC
    go_wp2_with fail
    refine bodyPost_ret (v:=.tuple #[.slice O kk cO,.slice (some ⟨w1.heap.size,0,none⟩) kk kk]) (by simp [results,results104,go_sem]) rfl ?_;refine ⟨O,_,kk,⟨cO,kk,rfl⟩,(HO.out.below HB.out).rdM (fun _ h1 h2=>⟨h1,h2⟩),?_,hnl,Zb HB1.out HB.out⟩;have hC:=HC.out;rw [Yy,List.replicate_zero,List.append_nil,Ye (by rw [HLC.out];exact Zn _)] at hC;have:=hC.rdM (G:=fun b=>w.heap.size≤b∧b<wr.heap.size) ⟨HB1.out.size,hlt1⟩
    rwa [HLC.out] at this
  · have j2:(kk:Int)<(no:Int):=by omega
    have j3:(0:Int)≤(kk:Int):=by omega
    obtain ⟨ob,oo,z,rfl,hz,c1⟩:=(HO.out.below hb).rds.rdI.at_ hlt;obtain ⟨b,y,rfl,hy⟩:=HCL.out kk z hz;have HY:=Zh hy;have HZ:=Zh (HCS.out kk b hz);have q0:=HQ.out wr (Zb HB1.out hb);have HT:=Zh (HTN.out wr (Zb HB1.out hb) b y hy);clear hb hC hz hy
    go_wp2_with fail
    with_reducible refine HT.out.mono ?_
    rintro r w3 ⟨rfl,hb3⟩;have HB3:=Zh (Zb HB.out hb3);have HC3:=Zh (HC.out.below hb3 hlt1);have hfr:=HC3.out.frozen kk;have HC4:=Zh (HC3.out.setI (set_take HZ.out hlt HLC.out));have HB4:=Zh (Zi (o:=kk) (u:=.int .i64 (Qaw N a b)) HB3.out (Zn _))
    have d0:w3.cell? ⟨w1.heap.size,kk,none⟩=some (.int .i64 0):=HC3.out.cellI (by
     rw [Yb (by rw [Yw,HLC.out];omega),Yw,HLC.out,Nat.min_eq_left (by omega),Yy,List.getElem?_replicate,if_pos (by omega)])
    clear hb3 c1 q0
    go_wp2_with fail
    go_roundw
    case rel=>exact ⟨kk+1,by omega,by go_num,HB4.out,HC4.out⟩
    case measure=>simp [intOf];omega
def NxtR (w:World)(G:Nat→Prop)(mb n:Nat)(N:Qak) (ls:List (List Int)) (av:List Int) (a:Nat) (r:Ending) (w':World):Prop :=
 ∃ (O C:Option Addr) (nO cO cC n':Nat) (os cs:List Int) (f':Nat→Nat→Option Value),r=.returned (.tuple #[.slice O nO cO,.slice C nO cC])∧NxtP N ls av a os cs∧RdI (msk w' (G2 G w w')) O nO os∧RdI (msk w' (G2 G w w')) C nO cs ∧
  MpQ w' mb n' f'∧n'≤n+1∧MpC w' (G2 G w w') N.ar ls f'∧Nxw mb w w'∧nO≤16384
theorem G2.more {G:Nat→Prop}{w V V':World}(h:Below V.heap.size V V'):Le (msk V (G2 G w V)) (msk V' (G2 G w V')) :=
 (Qbb.msk (Qbb.below h)).trans (Qbe (fun _ hb=>hb.imp id (fun h1=>⟨h1.1,Yu h1.2 h.size⟩)))
set_option maxRecDepth 20000 in
set_option maxHeartbeats 2000000 in
theorem next1_ok (w:World)(qb g o:Nat)(N:Qak) (ls:List (List Int)) (s t:Nat) (CA:Option Addr) (NC cC:Nat) (cl:List Int) (Q:Option Addr) (L cq mb bb na a J j:Nat) (y:Tri) (av:List Int) (G:Nat→Prop) (n:Nat) (f:Nat→Nat→Option Value) (h:QR (msk w G) qb g o N ls s t CA NC cC cl Q L cq mb bb na) (hGm:¬G mb) 
 (hm:MpQ w mb n f) (hn:n≤1000000) (hmc:MpC w G N.ar ls f) (hok:Qas N) (hP:Qbc N.vs.length ls) (hA:Qdh N ls cl) (hcc:NC≤cC∧cC≤9223372036854775807) (hSm:Qca (gatesOf N.ar ls)≤1000000000) (hy:N.ar[a]?=some y) (hg:Raq N ls av a) (hJ:Qfy ls (toV N a) av=J) (hj:J=j+1) :
 Calls prog 104 #[.pointer (some ⟨qb,0,none⟩),.int .i64 J,.int .i64 a] w (NxtR w G mb n N ls av a):=by
 obtain ⟨l,hl,_⟩:=Qdl (hJ.trans hj);have hlv:=hP.lvl l (Zm hl);have hgd:=hg j l y (hJ.trans hj) hl hy;obtain ⟨_,v,_,e2,_,hv⟩:=Qgj hok hy;obtain ⟨c,hc,hcm,hcv⟩:=Qdp hlv hv;rw [←e2] at hc;obtain ⟨x,hx⟩:∃ x,(gateRow N.ar l)[c]?=some x:=⟨_,Zg (by rw [Qau];exact hcm)⟩;obtain ⟨i,hi⟩:=Yr ((Qdi hx).2 ⟨y,hy,by rw [←hc];exact hgd,hc⟩);have HNX:=Zh (Rao hok hA (hJ.trans hj) hl hy hgd hc hx hi);have hL6:=hP.l6;have hlen:=hlv.len;have hvs:=hok.lv;have hil:=(Zs hi).1;have hll:=(Zs hl).1;have HQ:=Zh (show ∀ V,Nxw mb w V→QR V qb g o N ls s t CA NC cC cl Q L cq mb bb na from fun V hV=>h.le ((G2.le hV hGm).trans (Qbd _ _)))
 have HG2:=Zh (show ∀ V,Nxw mb w V→Le (msk w G) (msk V (G2 G w V)) from fun V hV=>G2.le hV hGm)
 have HMQ:=Zh hm;have HMC:=Zh hmc;have HCL:=Zh h.costs;have HCC:=Zh hcc;have HTO:=Zh (Qhs g a N y w (h.gr.le (Qbd _ _)) hy);rw [e2] at HTO;have HGT:=Zh (fun V (hV:Nxw mb w V)=>Qic o j c N.ar ls l x V (h.ov.le ((G2.le hV hGm).trans (Qbd _ _))) hl (by omega) hx (by have:=hok.la;omega));have HFR:=Zh (fun V (hV:Nxw mb w V)=>Rac o j c i N ls l x V (h.ov.le ((G2.le hV hGm).trans (Qbd _ _))) hl hx hil (by omega) hSm);have HSO:=Zh (Qet hx);have HPI:=Zh (Qfg HSO.out hi);have hgl:=Qbn hx;have hla:=hok.la;have HGL:=Zh (show x.1.length≤16384∧x.2.length≤16384 by omega)
 have hq:=(h.le (Qbd _ _));have q0:=hq.q0;have q5:=hq.q5;have q6:=hq.q6;obtain ⟨qb2,qo2,A0,n0,c0,l0,rfl,hl0,k0,k1,_,_⟩:=hq.part.at_ (i:=j) (by have:=hq.part.1;omega);rw [hl] at hl0
 cases hl0
 obtain ⟨kb,ko,z,rfl,hz,k2⟩:=k1.at_ (i:=v) (by rw [←k1.1];omega);rw [hcv] at hz
 cases hz
 have hLL:L=ls.length:=hq.part.1.symm;have hn0:n0=N.vs.length:=by rw [←k1.1];exact hlen
 have m1:(J:Int)-1=(j:Int):=by omega
 have m2:(0:Int)≤(j:Int):=by omega
 have m3:(j:Int)<(L:Int):=by omega
 have m4:(0:Int)≤(v:Int):=by omega
 have m5:(v:Int)<(n0:Int):=by omega
 have m6:((J:Int) == 0)=false:=by simp;omega
 have m7:(j:Int)+1=(J:Int):=by omega
 simp only [m7] at HGT HFR;have wl:IntKind.i64.wrap (j:Int)=(j:Int):=IntWalk.i64_in _ (by omega);have HX0:=Zh (show Nxw mb w w from Nxw.below (Zr _ _) hm.lt)
 have HJ:=Zh hj;have HJL:=Zh (show J≤1000000000000∧c≤1000000000000 by have:=hlv.hi _ (Zm hcv);omega)
 have HL:=Zh hl;have HX:=Zh hx;have HI:=Zh hi;clear h hGm hmc hok hP hA hSm hy hg hJ hl hlv hgd hc hcm hcv hx hi hq k1 e2 hgl hla hlen hvs hj hcc hm hLL hn0 m7 hil hll hL6
 go_enter func104,ntmps104
 go_wp2_with fail
 with_reducible refine HTO.out.mono ?_
 rintro r w' ⟨rfl,rfl⟩
 cases hf:f J c with
 | some u =>
  obtain ⟨j',l',x',A1,n1,c1,A2,n2,c2,ej,hl',hx',rfl,hr1,hr2⟩:=HMC.out J c u hf;obtain rfl:j=j':=by have:=HJ.out;omega
  rw [HL.out] at hl'
  cases hl'
  rw [HX.out] at hx'
  cases hx'
  have HR1:=Zh hr1;have HR2:=Zh hr2;clear ej hr1 hr2
  go_wp2_with (at_lookup;with_reducible refine Qxg rfl _ _ rfl J c rfl HMQ.out rfl HJL.out.1 HJL.out.2 ?_)
  (refine Qab ?_;intro w6 hw6)
  have hb6:Below w.heap.size w w6:=by rw [hw6];exact Qag
  have HC6:=Zh (show Blk w6 w.heap.size 135 #[.slice A1 n1 c1,.slice A2 n2 c2] by rw [hw6];exact Blk.new _ _ _)
  have HX6:=Zh (Nxw.below hb6 HMQ.out.lt);have HMV:=Zh (HMQ.out.below hb6);have HNN:=Zh (show n≤n+1 by omega)
  have HMCV:=Zh (HMC.out.le (HG2.out w6 HX6.out));have HR1:=Zh (HR1.out.le (HG2.out w6 HX6.out));have HR2:=Zh (HR2.out.le (HG2.out w6 HX6.out));clear hw6 hb6 hf;have hq6:=HQ.out w6 HX6.out;have q1:=hq6.q1;have z0:w6.cell? ⟨w.heap.size,0,none⟩=some (.slice A1 n1 c1):=Zq HC6.out;have HPL:=Zh (Qfk A1 n1 c1 x.1 (a:Int) w6 (HR1.out.le (Qbd _ _)) HSO.out (by rw [←HR1.out.1];have:=HGL.out.1;omega));rw [HPI.out] at HPL;clear hq6;with_reducible refine HPL.out.mono ?_
  rintro r w7 ⟨rfl,hb7⟩;have HX7:=Zh (HX6.out.trans (Nxw.below hb7 HMV.out.lt));have HB7:=Zh hb7;have q1:=(HQ.out w7 HX7.out).q1;have HAT:=Zh (HFR.out w7 HX7.out);have w0:¬((i:Int)<0):=by omega
  clear z0 hb7
  by_cases hn0:x.2.length=0
  · have hfr:Qpa (gatesOf N.ar ls) (gateRow N.ar l) j c x i = -1:=by unfold Qpa;rw [if_pos hn0]
    rw [hfr] at HAT;have HN0:=Zh hn0;clear hfr hn0
    go_wp2_with fail
    with_reducible refine HAT.out.mono ?_
    rintro r w8 ⟨rfl,hb8⟩;have HB8:=Zh (Zb HB7.out hb8);clear hb8 q1
    go_wp2_with fail
    refine wp_region_held_drew (S:=fun V=>V=w8.drew) (by kernel_rfl) rfl (fun _=>?_);refine tz 0 106 ?_;refine tz 1 107 ?_;refine tz 2 108 ?_;refine tz 3 109 ?_;refine tz 4 110 ?_;refine tz 5 111 ?_;refine tz 6 112 ?_;refine tw 7 113 ?_;refine tw 8 114 ?_;refine tw 9 115 ?_;refine tw 10 116 ?_;refine tw 11 117 ?_;refine tw 12 118 ?_;refine tw 13 119 ?_;refine tw 14 120 ?_;refine tw 15 121 ?_;refine tw 16 122 ?_;refine tw 17 123 ?_;refine tz 18 124 ?_;refine Zd ?_;obtain ⟨v9,hv9⟩:∃ V,V=w8.drew:=⟨_,rfl⟩;rw [←hv9];have HB9:=Zh (show Below w6.heap.size w6 v9 by rw [hv9];exact HB8.out.drew)
    clear hv9
    go_wp2_with fail
    refine bodyPost_ret (v:=.tuple #[.slice none 0 0,.slice none 0 0]) (by simp [results,results104,go_sem]) rfl ?_;have hx2:x.2=[]:=List.eq_nil_of_length_eq_zero HN0.out;have hnx:=HNX.out;rw [hx2] at hnx;exact ⟨none,none,0,0,0,n,[],_,f,rfl,hnx,⟨rfl,fun i x h=>by simp at h⟩,⟨by simp,fun i x h=>by simp at h⟩,HMV.out.below HB9.out,HNN.out,HMCV.out.le (G2.more HB9.out),HX6.out.trans (Nxw.below HB9.out HMV.out.lt),by omega⟩
  · obtain ⟨e0,he0⟩:∃ e0,e0=Qgq (gatesOf N.ar ls) (gateRow N.ar l) j c x i 0:=⟨_,rfl⟩
    have hfr:Qpa (gatesOf N.ar ls) (gateRow N.ar l) j c x i=(e0:Int):=by unfold Qpa;rw [if_neg hn0,he0]
    rw [hfr] at HAT;have HNX2:=Zh HNX.out;rw [←he0] at HNX2;have hn2:n2=x.2.length:=HR2.out.1.symm;have hlen2:=HNX2.out.len;rw [Yw,List.length_drop,HCL.out.1] at hlen2;have hbd:e0+n2≤NC∧0<n2∧n2≤16384:=by have:=HGL.out;omega
    have hcx:=HCC.out;have HCT:=Zh (Qun CA NC cC e0 n2 (by omega) hbd.2.1);have HBD:=Zh hbd;have w1:¬((e0:Int)<0):=by omega
    have w2:¬((NC:Int)<(e0:Int)+(n2:Int)):=by omega
    have w3:decide ((i:Int)<0)=false:=by simp
    have w4:decide ((e0:Int)<0)=false:=by simp
    have w5:decide ((NC:Int)<(e0:Int)+(n2:Int))=false:=by simp;omega
    have HWR:=Zh (show IntKind.i64.wrap ((e0:Int)+(n2:Int))=(e0:Int)+(n2:Int) from IntWalk.i64_in _ (by omega))
    have hwr:=HWR.out;have hct:=HCT.out;have HN2:=Zh hn2;clear hfr he0 hn0 hn2 hlen2 hbd hcx
    go_wp2_with fail
    with_reducible refine HAT.out.mono ?_
    rintro r w8 ⟨rfl,hb8⟩;have HX8:=Zh (HX7.out.trans (Nxw.below hb8 (Yu HMV.out.lt HB7.out.size)));have HB8:=Zh (Zb HB7.out hb8);have HC8:=Zh (HC6.out.below HB8.out HC6.out.lt);have HSX:=Zh (show ∀ V,Below w8.heap.size w8 V→V.cell? ⟨qb,2,none⟩=some (.slice CA NC cC)∧V.cell? ⟨w.heap.size,1,none⟩=some (.slice A2 n2 c2) from fun V hV=>⟨Zc hV (Zn _) (HQ.out w8 HX8.out).q2,Zc hV (Zn _) (Zq HC8.out)⟩)
    clear hb8 q1
    go_wp2_with fail
    refine wp_region_held_drew (S:=fun V=>Below w8.heap.size w8 V) (by kernel_rfl) (Zr _ _).drew (fun _=>?_);refine tz 0 106 ?_;refine tz 1 107 ?_;refine tz 2 108 ?_;refine tz 3 109 ?_;refine tz 4 110 ?_;refine tz 5 111 ?_;refine tz 6 112 ?_;refine tz 7 113 ?_;refine tz 8 114 ?_;refine tz 9 115 ?_;refine tz 10 116 ?_;refine tz 11 117 ?_;refine tz 12 118 ?_;refine tz 13 119 ?_;refine tz 14 120 ?_;refine tz 15 121 ?_;refine tz 16 122 ?_;refine tz 17 123 ?_;refine tz 18 124 ?_;refine Zd ?_
    go_wp2_with fail
    refine wp_region_held_drew (S:=fun V=>Below w8.heap.size w8 V) (by kernel_rfl) (Zr _ _).drew.drew (fun _=>?_);refine tz 0 125 ?_;refine tz 1 126 ?_;refine tz 2 127 ?_;refine tz 3 128 ?_;refine tz 4 129 ?_;refine tz 5 130 ?_;refine tz 6 131 ?_;refine tz 7 132 ?_;refine tz 8 133 ?_;refine tz 9 134 ?_;refine tz 10 135 ?_;refine tz 11 136 ?_;refine tz 12 137 ?_;refine tz 13 6 ?_;refine tz 14 7 ?_;refine Zd ?_;obtain ⟨v9,hv9⟩:∃ V,V=w8.drew.drew:=⟨_,rfl⟩;rw [←hv9];have HB9:=Zh (show Below w6.heap.size w6 v9 by rw [hv9];exact HB8.out.drew.drew)
    clear hv9
    go_wp2_with fail
    refine bodyPost_ret (v:=.tuple #[.slice A2 n2 c2,.slice (CA.map (·.add e0)) n2 (cC-e0)]) (by simp [results,results104,go_sem]) rfl ?_;have hcl:=HCL.out.sub e0 n2 HBD.out.1;rw [HN2.out] at hcl;refine ⟨A2,_,n2,c2,_,n,x.2,_,f,rfl,HNX2.out,HR2.out.le (G2.more HB9.out),?_,HMV.out.below HB9.out,HNN.out,HMCV.out.le (G2.more HB9.out),HX6.out.trans (Nxw.below HB9.out HMV.out.lt),HBD.out.2.2⟩;rw [HN2.out];exact hcl.le (HG2.out v9 (HX6.out.trans (Nxw.below HB9.out HMV.out.lt)))
 | none =>
  have q1:=(HQ.out w HX0.out).q1;have hqb:qb<w.heap.size:=Qah q1
  go_wp2_with (at_lookup;with_reducible refine Qxg rfl _ _ rfl J c rfl HMQ.out rfl HJL.out.1 HJL.out.2 ?_)
  (refine Qab ?_;intro w6 hw6)
  have hb6:Below w.heap.size w w6:=by rw [hw6];exact Qag
  have hC6:Blk w6 w.heap.size 135 #[.slice none 0 0,.slice none 0 0]:=by rw [hw6];exact Blk.new _ _ _
  have HX6:=Zh (Nxw.below hb6 HMQ.out.lt);clear hw6 hf q1;with_reducible refine (HGT.out w6 HX6.out).mono ?_
  rintro r w7 ⟨A1,n1,c1,A2,n2,c2,rfl,ho1,ho2,hb7⟩;have hC7:=hC6.below hb7 hC6.lt;obtain ⟨z0,z1,f0,f1⟩:=hC7.two;have HO1:=Zh ((ho1.far (Qaa w7 w.heap.size 0 (.slice A1 n1 c1)) (.inr (ho1.ne hC6.lt))).far (Qaa _ w.heap.size 1 (.slice A2 n2 c2)) (.inr (ho1.ne hC6.lt)));have HO2:=Zh ((ho2.far (Qaa w7 w.heap.size 0 (.slice A1 n1 c1)) (.inr (ho2.ne hC6.lt))).far (Qaa _ w.heap.size 1 (.slice A2 n2 c2)) (.inr (ho2.ne hC6.lt)));have HB7:=Zh (Zi (o:=1) (u:=.slice A2 n2 c2) (Zi (o:=0) (u:=.slice A1 n1 c1) (Zb hb6 hb7) (Zn _)) (Zn _));have HC7:=Zh ((hC7.set_ 0 (.slice A1 n1 c1)).set_ 1 (.slice A2 n2 c2));have HZ6:=Zh (show w.heap.size≤w6.heap.size from hb6.size)
  clear ho1 ho2 hC6 hC7 hb6 hb7
  go_wp2_with fail
  (refine Qai ?_;intro w8 hw8)
  have hb8:Below w.heap.size w w8:=by rw [hw8];exact HB7.out
  have HC8:=Zh (show Blk w8 w.heap.size 135 #[.slice A1 n1 c1,.slice A2 n2 c2] by rw [hw8];exact HC7.out)
  have HO1:=Zh (show Own w8 w6.heap.size 3 1 A1 n1 c1 (Qaf x.1) by rw [hw8];exact HO1.out)
  have HO2:=Zh (show Own w8 w6.heap.size 3 1 A2 n2 c2 (Qaf x.2) by rw [hw8];exact HO2.out)
  have HB8:=Zh hb8;have HX8:=Zh (Nxw.below hb8 HMQ.out.lt);clear hw8 hb8 HB7 HC7;have x6:=(HQ.out w8 HX8.out).q6;have z0:w8.cell? ⟨w.heap.size,0,none⟩=some (.slice A1 n1 c1):=Zq HC8.out;have z1:w8.cell? ⟨w.heap.size,1,none⟩=some (.slice A2 n2 c2):=Zq HC8.out;refine Qbm 8 (S:=fun V=>V.cell? ⟨qb,6,none⟩=some (.map (some mb))∧V.cell? ⟨w.heap.size,0,none⟩=some (.slice A1 n1 c1)∧V.cell? ⟨w.heap.size,1,none⟩=some (.slice A2 n2 c2)) (by kernel_rfl) ⟨x6,z0,z1⟩ (fun _=>?_);refine tkK 0 86 (h:=⟨_,tv,?_⟩);simp only [pE,List.set];refine tkK 1 87 (h:=⟨_,tv,?_⟩);simp only [pE,List.set];refine tkK 2 88 (h:=⟨_,tv,?_⟩);simp only [pE,List.set];refine tkK 3 89 (h:=⟨_,tv,?_⟩);simp only [pE,List.set];refine tkK 4 90 (h:=⟨_,tv,?_⟩);simp only [pE,List.set];refine tkK 5 91 (h:=⟨_,tv,?_⟩);simp only [pE,List.set];refine tkK 6 92 (h:=⟨_,tv,?_⟩);simp only [pE,List.set];refine tkK 7 93 (h:=⟨_,tv,?_⟩);simp only [pE,List.set];have hmq8:MpQ w8.drew mb n f:=(HMQ.out.below HB8.out).at_ rfl;refine Qcc (k:=8) (by kernel_rfl) rfl (fun K hK=>?_);refine (if_pos (by rfl)).mpr ?_;refine Qrl _ _ _ rfl J c _ rfl hmq8 (by omega) rfl rfl HJL.out.1 HJL.out.2 (fun w9 hm9 hg9=>?_);refine hK.out _ _ ?_;clear hK K;refine Qbw (by kernel_rfl) ?_ _;clear x6 z0 z1 hmq8;have hX8:Nxw mb w w8.drew:=Nxw.below HB8.out.drew HMQ.out.lt;have HX9:=Zh (hX8.trans (Nxw.grown hg9 (Yu HMQ.out.lt HB8.out.size)));have hC8:Blk w8.drew w.heap.size 135 #[.slice A1 n1 c1,.slice A2 n2 c2]:=HC8.out;have HC9:=Zh (hC8.grown hg9 (fun e=>by have:=HMQ.out.lt;cases e;omega))
  have ho1:Own w8.drew w6.heap.size 3 1 A1 n1 c1 (Qaf x.1):=HO1.out;have ho2:Own w8.drew w6.heap.size 3 1 A2 n2 c2 (Qaf x.2):=HO2.out;have hmb6:mb<w6.heap.size:=Yu HMQ.out.lt HZ6.out
  have HR1:=Zh (show RdI (msk w9 (G2 G w w9)) A1 n1 x.1 from (ho1.far hg9 (.inr (ho1.ne hmb6))).rdM (fun b h1 h2=>.inr ⟨Yx HZ6.out h1,h2⟩))
  have HR2:=Zh (show RdI (msk w9 (G2 G w w9)) A2 n2 x.2 from (ho2.far hg9 (.inr (ho2.ne hmb6))).rdM (fun b h1 h2=>.inr ⟨Yx HZ6.out h1,h2⟩))
  have HMV:=Zh hm9;have HNN:=Zh (show n+1≤n+1 from Zn _)
  have hput:=(HMC.out.le (HG2.out w9 HX9.out)).put (c1:=c1) (c2:=c2) HL.out HX.out HR1.out HR2.out;rw [←HJ.out] at hput;have HMCV:=Zh hput;clear hput ho1 ho2 hmb6 hC8 hX8 hg9 hm9 HX8 HC8 HO1 HO2 HB8 HX6;have z0:w9.cell? ⟨w.heap.size,0,none⟩=some (.slice A1 n1 c1):=Zq HC9.out;have HX6:=HX9;have HC6:=HC9;clear HX9 HC9
  go_wp2_with fail
  clear z0;have hq6:=HQ.out w9 HX6.out;have q1:=hq6.q1;have z0:w9.cell? ⟨w.heap.size,0,none⟩=some (.slice A1 n1 c1):=Zq HC6.out;have HPL:=Zh (Qfk A1 n1 c1 x.1 (a:Int) w9 (HR1.out.le (Qbd _ _)) HSO.out (by rw [←HR1.out.1];have:=HGL.out.1;omega));rw [HPI.out] at HPL;clear hq6;with_reducible refine HPL.out.mono ?_
  rintro r w7 ⟨rfl,hb7⟩;have HX7:=Zh (HX6.out.trans (Nxw.below hb7 HMV.out.lt));have HB7:=Zh hb7;have q1:=(HQ.out w7 HX7.out).q1;have HAT:=Zh (HFR.out w7 HX7.out);have w0:¬((i:Int)<0):=by omega
  clear z0 hb7
  by_cases hn0:x.2.length=0
  · have hfr:Qpa (gatesOf N.ar ls) (gateRow N.ar l) j c x i = -1:=by unfold Qpa;rw [if_pos hn0]
    rw [hfr] at HAT;have HN0:=Zh hn0;clear hfr hn0
    go_wp2_with fail
    with_reducible refine HAT.out.mono ?_
    rintro r w8 ⟨rfl,hb8⟩;have HB8:=Zh (Zb HB7.out hb8);clear hb8 q1
    go_wp2_with fail
    refine wp_region_held_drew (S:=fun V=>V=w8.drew) (by kernel_rfl) rfl (fun _=>?_);refine tz 0 106 ?_;refine tz 1 107 ?_;refine tz 2 108 ?_;refine tz 3 109 ?_;refine tz 4 110 ?_;refine tz 5 111 ?_;refine tz 6 112 ?_;refine tw 7 113 ?_;refine tw 8 114 ?_;refine tw 9 115 ?_;refine tw 10 116 ?_;refine tw 11 117 ?_;refine tw 12 118 ?_;refine tw 13 119 ?_;refine tw 14 120 ?_;refine tw 15 121 ?_;refine tw 16 122 ?_;refine tw 17 123 ?_;refine tz 18 124 ?_;refine Zd ?_;obtain ⟨v9,hv9⟩:∃ V,V=w8.drew:=⟨_,rfl⟩;rw [←hv9];have HB9:=Zh (show Below w9.heap.size w9 v9 by rw [hv9];exact HB8.out.drew)
    clear hv9
    go_wp2_with fail
    refine bodyPost_ret (v:=.tuple #[.slice none 0 0,.slice none 0 0]) (by simp [results,results104,go_sem]) rfl ?_;have hx2:x.2=[]:=List.eq_nil_of_length_eq_zero HN0.out;have hnx:=HNX.out;rw [hx2] at hnx;exact ⟨none,none,0,0,0,(n+1),[],_,(fun p q=>if p=J∧q=c then some (.agg #[.slice A1 n1 c1,.slice A2 n2 c2]) else f p q),rfl,hnx,⟨rfl,fun i x h=>by simp at h⟩,⟨by simp,fun i x h=>by simp at h⟩,HMV.out.below HB9.out,HNN.out,HMCV.out.le (G2.more HB9.out),HX6.out.trans (Nxw.below HB9.out HMV.out.lt),by omega⟩
  · obtain ⟨e0,he0⟩:∃ e0,e0=Qgq (gatesOf N.ar ls) (gateRow N.ar l) j c x i 0:=⟨_,rfl⟩
    have hfr:Qpa (gatesOf N.ar ls) (gateRow N.ar l) j c x i=(e0:Int):=by unfold Qpa;rw [if_neg hn0,he0]
    rw [hfr] at HAT;have HNX2:=Zh HNX.out;rw [←he0] at HNX2;have hn2:n2=x.2.length:=HR2.out.1.symm;have hlen2:=HNX2.out.len;rw [Yw,List.length_drop,HCL.out.1] at hlen2;have hbd:e0+n2≤NC∧0<n2∧n2≤16384:=by have:=HGL.out;omega
    have hcx:=HCC.out;have HCT:=Zh (Qun CA NC cC e0 n2 (by omega) hbd.2.1);have HBD:=Zh hbd;have w1:¬((e0:Int)<0):=by omega
    have w2:¬((NC:Int)<(e0:Int)+(n2:Int)):=by omega
    have w3:decide ((i:Int)<0)=false:=by simp
    have w4:decide ((e0:Int)<0)=false:=by simp
    have w5:decide ((NC:Int)<(e0:Int)+(n2:Int))=false:=by simp;omega
    have HWR:=Zh (show IntKind.i64.wrap ((e0:Int)+(n2:Int))=(e0:Int)+(n2:Int) from IntWalk.i64_in _ (by omega))
    have hwr:=HWR.out;have hct:=HCT.out;have HN2:=Zh hn2;clear hfr he0 hn0 hn2 hlen2 hbd hcx
    go_wp2_with fail
    with_reducible refine HAT.out.mono ?_
    rintro r w8 ⟨rfl,hb8⟩;have HX8:=Zh (HX7.out.trans (Nxw.below hb8 (Yu HMV.out.lt HB7.out.size)));have HB8:=Zh (Zb HB7.out hb8);have HC8:=Zh (HC6.out.below HB8.out HC6.out.lt);have HSX:=Zh (show ∀ V,Below w8.heap.size w8 V→V.cell? ⟨qb,2,none⟩=some (.slice CA NC cC)∧V.cell? ⟨w.heap.size,1,none⟩=some (.slice A2 n2 c2) from fun V hV=>⟨Zc hV (Zn _) (HQ.out w8 HX8.out).q2,Zc hV (Zn _) (Zq HC8.out)⟩)
    clear hb8 q1
    go_wp2_with fail
    refine wp_region_held_drew (S:=fun V=>Below w8.heap.size w8 V) (by kernel_rfl) (Zr _ _).drew (fun _=>?_);refine tz 0 106 ?_;refine tz 1 107 ?_;refine tz 2 108 ?_;refine tz 3 109 ?_;refine tz 4 110 ?_;refine tz 5 111 ?_;refine tz 6 112 ?_;refine tz 7 113 ?_;refine tz 8 114 ?_;refine tz 9 115 ?_;refine tz 10 116 ?_;refine tz 11 117 ?_;refine tz 12 118 ?_;refine tz 13 119 ?_;refine tz 14 120 ?_;refine tz 15 121 ?_;refine tz 16 122 ?_;refine tz 17 123 ?_;refine tz 18 124 ?_;refine Zd ?_
    go_wp2_with fail
    refine wp_region_held_drew (S:=fun V=>Below w8.heap.size w8 V) (by kernel_rfl) (Zr _ _).drew.drew (fun _=>?_);refine tz 0 125 ?_;refine tz 1 126 ?_;refine tz 2 127 ?_;refine tz 3 128 ?_;refine tz 4 129 ?_;refine tz 5 130 ?_;refine tz 6 131 ?_;refine tz 7 132 ?_;refine tz 8 133 ?_;refine tz 9 134 ?_;refine tz 10 135 ?_;refine tz 11 136 ?_;refine tz 12 137 ?_;refine tz 13 6 ?_;refine tz 14 7 ?_;refine Zd ?_;obtain ⟨v9,hv9⟩:∃ V,V=w8.drew.drew:=⟨_,rfl⟩;rw [←hv9];have HB9:=Zh (show Below w9.heap.size w9 v9 by rw [hv9];exact HB8.out.drew.drew)
    clear hv9
    go_wp2_with fail
    refine bodyPost_ret (v:=.tuple #[.slice A2 n2 c2,.slice (CA.map (·.add e0)) n2 (cC-e0)]) (by simp [results,results104,go_sem]) rfl ?_;have hcl:=HCL.out.sub e0 n2 HBD.out.1;rw [HN2.out] at hcl;refine ⟨A2,_,n2,c2,_,(n+1),x.2,_,(fun p q=>if p=J∧q=c then some (.agg #[.slice A1 n1 c1,.slice A2 n2 c2]) else f p q),rfl,HNX2.out,HR2.out.le (G2.more HB9.out),?_,HMV.out.below HB9.out,HNN.out,HMCV.out.le (G2.more HB9.out),HX6.out.trans (Nxw.below HB9.out HMV.out.lt),HBD.out.2.2⟩;rw [HN2.out];exact hcl.le (HG2.out v9 (HX6.out.trans (Nxw.below HB9.out HMV.out.lt)))
def RunP (N:Qak) (ls:List (List Int)) (av:List Int) (s t:Nat) (v:Int) (hs:List (Nat×Nat)):Prop :=
 (wV N s=1152921504606846976∧v=1152921504606846976∧hs=[])∨(wV N s≠1152921504606846976∧Lst (Rch (HSt N ls av) s t) v∧(v=1152921504606846976∧hs=[]∨HopP N ls av s t v hs))
def GoneQ (N:Qak)(os cs:List Int)(i:Nat):Nat→Int→Prop:=fun r d=>∃ (j:Nat) (v:Int) (y:Tri),j<i∧os[j]?=some (r:Int)∧cs[j]?=some v∧N.ar[r]?=some y∧v≠1152921504606846976∧y.2.2≠1152921504606846976∧d=v+y.2.2
structure Qux (N:Qak) (ls:List (List Int)) (av:List Int) (s t na:Nat) (dnf hp:Nat→Option Int) (dn:List Bool) (bf:List Int):Prop where
 dij:Dij (HSt N ls av) s dnf hp
 via:Rah N ls av s bf dnf hp (dn.countP (fun b=>b))
 fl:∀ q,q<na→(dn.getD q false=true↔dnf q≠none)
 bd:∀ q e,hp q=some e→e≤MB+70379481595904
 ld:dn.length=na
 lb:bf.length=na
 nt:dnf t=none
structure Qsa (N:Qak) (ls:List (List Int)) (av:List Int) (s t na p:Nat) (c:Int) (os cs:List Int) (i:Nat) (dnf hp:Nat→Option Int) (dn:List Bool) (bf:List Int):Prop where
 dij:Qqv (HSt N ls av) s dnf hp p c (GoneQ N os cs i)
 via:Rah N ls av s bf dnf hp (dn.countP (fun b=>b))
 fl:∀ q,q<na→(dn.getD q false=true↔dnf q≠none)
 bd:∀ q e,hp q=some e→e≤MB+70379481595904
 ld:dn.length=na
 lb:bf.length=na
 nt:dnf t=none
 c0:0≤c∧c≤MB
section
variable {N:Qak} {ls:List (List Int)} {av:List Int} {s t na p:Nat} {c:Int} {os cs:List Int} {i:Nat} {dnf hp:Nat→Option Int} {dn:List Bool} {bf:List Int}
theorem Qqv.conv {St:Qbz}{G G':Nat→Int→Prop}(h:Qqv St s dnf hp p c G)(hg:∀ r d,G' r d→G r d):Qqv St s dnf hp p c G' :=
 ⟨h.dr,h.dm,h.hr,h.off,fun q e r d h1 h2=>(h.on q e r d h1 h2).imp (fun h3=>⟨h3.1,fun h4=>h3.2 (hg r d h4)⟩) id,h.st,h.at_⟩
theorem HSt.pos (hok:Qas N)(a b:Nat)(d:Int)(h:HSt N ls av a b d):0≤d:=(h.bd hok).1
theorem Qux.init:Qux N ls av s t na (fun _=>none) (Qix (fun _=>none) s 0) (List.replicate na false) (List.replicate na 0):=by
 have h1:∀ q,Qix (fun _=>none) s 0 q=if q=s then some 0 else none:=fun q=>by
  unfold Qix
  by_cases e:q=s <;> simp [e]
 refine ⟨⟨fun p c e=>(by cases e),fun p c e=>(by cases e),fun p c e=>?_,fun p c e=>(by cases e),fun p c q d e=>(by cases e),.inr ⟨0,by rw [h1,if_pos rfl],Int.le_refl _⟩⟩,?_,fun q hq=>?_,fun q e h=>?_,by simp,by simp,rfl⟩
 · rw [h1] at e
   split at e
   · rename_i h2
     subst h2
     cases e
     exact .start
   · cases e
 · have:(List.replicate na false).countP (fun b=>b)=0:=by simp
   rw [this];exact Rah.init h1
 · rw [getD_rep]
   simp
 · rw [h1] at h
   split at h
   · cases h;unfold MB;omega
   · cases h
theorem Qux.miss (hok:Qas N)(h:Qux N ls av s t na dnf hp dn bf)(he:∀ q,hp q=none):Lst (Rch (HSt N ls av) s t) 1152921504606846976:=h.dij.miss (HSt.pos hok) he h.nt
theorem Qux.hit (hok:Qas N)(h:Qux N ls av s t na dnf hp dn bf)(hp1:hp t=some c)(hm:∀ q e,hp q=some e→c≤e):Lst (Rch (HSt N ls av) s t) c:=h.dij.hit (HSt.pos hok) hp1 hm
theorem Qux.free (h:Qux N ls av s t na dnf hp dn bf)(hpn:p<na)(hp1:hp p=some c):dnf p=none∧dn.getD p false=false:=by
 have hno:dnf p=none:=by
  cases hd:dnf p with
  | none=>rfl
  | some e=>have:=h.dij.off p e hd;rw [hp1] at this;cases this
 refine ⟨hno,?_⟩
 cases hd:dn.getD p false with
 | false=>rfl
 | true=>exact absurd hno ((h.fl p hpn).1 hd)
theorem Qux.take (hok:Qas N)(hP:Qbc N.vs.length ls) (hE:∀ (j:Nat) (l:List Int) (a b:Nat) (y z:Tri),ls[j]?=some l→N.ar[a]?=some y→N.ar[b]?=some z→Qad l y.1≠Qad l y.2.1→Qad l z.1=Qad l y.2.1→Qad l z.2.1≠Qad l y.2.1→∃ v,Qgx N (Qeu l (Qad l y.2.1)) a b v)
 (hs:∃ x,N.ar[s]?=some x) (hav:toV N s∈av) (h:Qux N ls av s t na dnf hp dn bf) (hpn:p<na) (hp1:hp p=some c) (hm:∀ q e,hp q=some e→c≤e) (hpt:p≠t) :
 Qsa N ls av s t na p c os cs 0 (fun q=>if q=p then some c else dnf q) (fun q=>if q=p then none else hp q) (dn.set p true) bf∧Raq N ls av p:=by
 obtain ⟨hno,hdn⟩:=h.free hpn hp1;have hr:=h.dij.hr p c hp1;have hpl:p<dn.length:=by rw [h.ld];exact hpn
 refine ⟨⟨(h.dij.take (HSt.pos hok) hp1 hm).conv (fun r d ⟨j,_,_,hj,_⟩=>by omega),?_,fun q hq=>?_,fun q e hq=>?_,by rw [Yq];exact h.ld,h.lb,?_,hr.pos (HSt.pos hok),?_⟩,Qpo hok hP hav hr⟩
 · rw [Qek hpl hdn]
   exact h.via.take hp1 hno
 · by_cases e:q=p
   · subst e
     simp [hpl]
   · have e':¬p=q:=fun x=>e x.symm
     have:=h.fl q hq
     simpa [List.getElem?_set,e,e'] using this
 · by_cases e1:q=p
   · rw [if_pos e1] at hq;cases hq
   · rw [if_neg e1] at hq;exact h.bd q e hq
 · simp only [if_neg (fun e:t=p=>hpt e.symm)]
   exact h.nt
 · obtain ⟨e,h1,h2⟩:=rchH_bd hok hP hE hs hav hr
   have:=h.dij.least (HSt.pos hok) hp1 hm e h1;omega
theorem Qsa.skip (h:Qsa N ls av s t na p c os cs i dnf hp dn bf){b:Nat}{v:Int}{y:Tri} (hb:os[i]?=some (b:Int)) (hv:cs[i]?=some v) (hy:N.ar[b]?=some y) (hno:v=1152921504606846976∨y.2.2=1152921504606846976):Qsa N ls av s t na p c os cs (i+1) dnf hp dn bf :=
 ⟨h.dij.conv (fun r d ⟨j,v',y',hj,h1,h2,h3,h4,h5,h6⟩=>by
  by_cases e:j=i
  · subst e
    rw [hb] at h1;have e1:=Int.ofNat.inj (Yv h1);subst e1;rw [hv] at h2
    cases h2
    rw [hy] at h3
    cases h3
    rcases hno with g|g
    · exact absurd g h4
    · exact absurd g h5
  · exact ⟨j,v',y',by omega,h1,h2,h3,h4,h5,h6⟩),h.via,h.fl,h.bd,h.ld,h.lb,h.nt,h.c0⟩
theorem Qmv {b:Nat}{v:Int}{y:Tri} (hb:os[i]?=some (b:Int)) (hv:cs[i]?=some v) (hy:N.ar[b]?=some y) (r:Nat) (d:Int) (h:GoneQ N os cs (i+1) r d):GoneQ N os cs i r d∨(r=b∧d=v+y.2.2):=by
 obtain ⟨j,v',y',hj,h1,h2,h3,h4,h5,h6⟩:=h
 by_cases e:j=i
 · subst e
   rw [hb] at h1;have e1:=Int.ofNat.inj (Yv h1);subst e1;rw [hv] at h2
   cases h2
   rw [hy] at h3
   cases h3
   exact .inr ⟨rfl,h6⟩
 · exact .inl ⟨j,v',y',by omega,h1,h2,h3,h4,h5,h6⟩
theorem Qsa.off (h:Qsa N ls av s t na p c os cs i dnf hp dn bf){b:Nat}{v:Int}{y:Tri} (hb:os[i]?=some (b:Int)) (hv:cs[i]?=some v) (hy:N.ar[b]?=some y) (hst:HSt N ls av p b (v+y.2.2)) (hbn:b<na) (hd:dn.getD b false=true):Qsa N ls av s t na p c os cs (i+1) dnf hp dn bf :=
 ⟨(h.dij.put hst (.inl ⟨(h.fl b hbn).1 hd,fun e he=>h.dij.dm b e he _ ((h.dij.dr p c h.dij.at_).step hst),rfl⟩)).conv (Qmv hb hv hy),h.via,h.fl,h.bd,h.ld,h.lb,h.nt,h.c0⟩
theorem Qsa.put (hok:Qas N)(h:Qsa N ls av s t na p c os cs i dnf hp dn bf){b:Nat}{v:Int}{y:Tri} (hb:os[i]?=some (b:Int)) (hv:cs[i]?=some v) (hy:N.ar[b]?=some y) (hst:HSt N ls av p b (v+y.2.2)) (hbn:b<na) (hd:dn.getD b false=false) :
 Qsa N ls av s t na p c os cs (i+1) dnf (Qix hp b (c+(v+y.2.2))) dn (if Qwx hp b (c+(v+y.2.2)) then bf.set b (p:Int) else bf):=by
 have hdn:dnf b=none:=by
  cases e:dnf b with
  | none=>rfl
  | some x =>
   have:=(h.fl b hbn).2 (by rw [e];exact fun h=>by cases h)
   rw [hd] at this
   cases this
 obtain ⟨x,hx⟩:∃ x,x=c+(v+y.2.2):=⟨_,rfl⟩;rw [←hx];have hne:∀ r,r≠b→Qix hp b x r=hp r:=fun r hr=>by unfold Qix;rw [if_neg hr]
 have hat0:hp b=none→Qix hp b x b=some x:=fun e=>by unfold Qix;rw [if_pos rfl,e]
 have hat1:∀ z,hp b=some z→Qix hp b x b=some (if z≤x then z else x):=fun z e=>by unfold Qix;rw [if_pos rfl,e]
 have hbd:∀ q e,Qix hp b x q=some e→e≤MB+70379481595904:=fun q e hq=>by
  by_cases e1:q=b
  · subst e1
    have h1:=(hst.bd hok).2;have h2:=h.c0.2
    cases e2:hp q with
    | none=>rw [hat0 e2] at hq;cases hq;omega
    | some z =>
     rw [hat1 z e2] at hq;simp only [Option.some.injEq] at hq;have:=h.bd q z e2
     split at hq <;> omega
  · rw [hne q e1] at hq
    exact h.bd q e hq
 refine ⟨(h.dij.put hst (.inr ⟨hdn,hne,?_⟩)).conv (Qmv hb hv hy),?_,h.fl,hbd,h.ld,by split <;> simp [h.lb],h.nt,h.c0⟩
 · cases e2:hp b with
   | none=>exact .inr ⟨fun e h=>(by cases h),by rw [hat0 e2,hx]⟩
   | some z =>
    by_cases e3:z≤x
    · exact .inl ⟨z,rfl,by omega,by rw [hat1 z e2,if_pos e3]⟩
    · exact .inr ⟨fun e h=>by cases h;omega,by rw [hat1 z e2,if_neg e3,hx]⟩
 · cases e2:hp b with
   | none =>
    rw [show Qwx hp b x=true by unfold Qwx;rw [e2],if_pos rfl]
    exact h.via.put h.dij.at_ hdn (by rw [h.lb];exact hbn) hst hne (by rw [hat0 e2,hx])
   | some z =>
    by_cases e3:z≤x
    · rw [show Qwx hp b x=false by unfold Qwx;rw [e2];simp [e3]]
      have:Qix hp b x=hp:=funext fun r=>by
       by_cases e1:r=b
       · subst e1;rw [hat1 z e2,if_pos e3,e2]
       · exact hne r e1
      rw [this];exact h.via
    · rw [show Qwx hp b x=true by unfold Qwx;rw [e2];simp [e3],if_pos rfl]
      exact h.via.put h.dij.at_ hdn (by rw [h.lb];exact hbn) hst hne (by rw [hat1 z e2,if_neg e3,hx])
theorem Qsa.all (h:Qsa N ls av s t na p c os cs i dnf hp dn bf)(hn:NxtP N ls av p os cs)(hi:os.length≤i):Qux N ls av s t na dnf hp dn bf :=
 ⟨h.dij.done (fun q d hq=>by
  obtain ⟨k,v,y,h1,h2,h3,h4,h5,h6⟩:=hn.all q d hq;exact ⟨k,v,y,by have:=(Zs h1).1;omega,h1,h2,h3,h4,h5,h6⟩),h.via,h.fl,h.bd,h.ld,h.lb,h.nt⟩
end
end Go.Proofs.YtdheeddnkdhfeaaGreatDoor
