/- Parts of the proof: AsQ, Mq, AsR, AsM, LsP, RfT, RoI, AsC, AsN, AsO. -/
import Derived.Test.YtdheeddnkdhfeaaGreatDoorA17
import Derived.Maps.OwnSet
import Derived.Maps.OwnOps
import Derived.WideKeyPair
namespace Go.Proofs.YtdheeddnkdhfeaaGreatDoor
open Go.RowKit Go.Proofs.Tryz
section
variable {N:Qam} {ls:List (List Int)} {s t:Nat} {d:List Int}
theorem StW.lt {a b:Nat}{e:Int}(h:StW N a b e):b<N.ar.length:=by
 obtain ⟨y,hy,_⟩:=h;exact (Zs hy).1
theorem StW.bd (hok:Qap N){a b:Nat}{e:Int}(h:StW N a b e):0≤e∧e≤4294967296:=by
 obtain ⟨y,hy,h1,h2,rfl⟩:=h;have h3:=(Qcu hok a b).resolve_left h1;have h4:=(Qdq (hok.arcs y (Zm hy)).w).resolve_left h2;omega
theorem Qrp (hok:Qap N){p:Nat}{c:Int} (h:Rch (StW N) s p c):∃ e,Rch (StW N) s p e∧e≤MB:=by
 exact Kbu
end
/-! A search that takes the least first and stops where its end is taken. -/
theorem Dij.hit {St:Qbd}{s t:Nat}{dn hp:Nat→Option Int}(h:Dij St s dn hp)(h0:∀ p q d,St p q d→0≤d){c:Int}(hp1:hp t=some c)(hm:∀ q e,hp q=some e→c≤e):Lst (Rch St s t) c:=.inl ⟨h.hr t c hp1,h.least h0 hp1 hm⟩
theorem Dij.miss {St:Qbd}{s t:Nat}{dn hp:Nat→Option Int}(h:Dij St s dn hp)(h0:∀ p q d,St p q d→0≤d)(he:∀ q,hp q=none)(ht:dn t=none):Lst (Rch St s t) 1152921504606846976:=.inr ⟨rfl,fun c hc=>by
 obtain ⟨e,h1,_⟩:=h.all h0 he hc;rw [ht] at h1
 cases h1⟩
section
variable {N:Qam} {ls:List (List Int)} {av:List Int} {s:Nat}
theorem Qns (hok:Qap N)(hP:Qaw N.vs.length ls)(hav:toV N s∈av){p:Nat}{c:Int} (h:Rch (HSt N ls av) s p c):Qxy N ls av p:=by
 cases h with
 | start=>exact Qlk hav
 | step _ h2 =>
  rcases h2 with ⟨h0,h3⟩|⟨j,l,y,z,v,hj,hl,hy,hz,_,h5,h6,_⟩
  · obtain ⟨x,y,hx,hy,e,_⟩:=h3.ends
    exact Qnq hx hy e h0
  · exact Qoq hok hP hy hz hj hl h5 h6
theorem rchH_bd (hok:Qap N)(hP:Qaw N.vs.length ls) (hE:∀ (j:Nat) (l:List Int) (a b:Nat) (y z:Tri),ls[j]?=some l→N.ar[a]?=some y→N.ar[b]?=some z→Qaa l y.1≠Qaa l y.2.1→Qaa l z.1=Qaa l y.2.1→Qaa l z.2.1≠Qaa l y.2.1→∃ v,Qfi N (Qbv l (Qaa l y.2.1)) a b v)
 (hs:∃ x,N.ar[s]?=some x) (hav:toV N s∈av) {p:Nat} {c:Int} (h:Rch (HSt N ls av) s p c):∃ e,Rch (HSt N ls av) s p e∧e≤MB:=by
 obtain ⟨e,h1,h2⟩:=Qrp hok (Qvz h);obtain ⟨a,c1,c2,g1,g2,g3,g4⟩:=Qom hok hP hE h1 hs hav
 rcases g4 with ⟨_,rfl,rfl⟩|⟨j,l,y,hj,hl,hy,hr⟩
 · exact ⟨c1,g1,by omega⟩
 · cases hr with
   | start=>exact ⟨c1,g1,by omega⟩
   | step _ h4 =>
    exfalso
    have hlen:=(hP.lvl l (Zm hl)).len;obtain ⟨_,w,_,hw,_,_,_,h5,h6,_⟩:=(Qbz hok hlen).1 h4;obtain ⟨l',hl',q1⟩:=Qeg hj;rw [hl] at hl'
    cases hl'
    rw [(Qbr hy).1] at q1;have hm:=Qmt (ls:=ls) (v:=toV N p) (av:=av) (j:=j) ⟨l,hl,fun v hv=>by rw [(Qbr hw).1,h6];exact q1 v hv⟩;obtain ⟨k,hk⟩:∃ k,Qgt ls (toV N p) av=k+1:=⟨Qgt ls (toV N p) av-1,by omega⟩;obtain ⟨lk,hlk,_⟩:=Qeg hk;obtain ⟨u,v,e1,e2,hu,hv⟩:=Qdi hok hw;have hg:=Qns hok hP hav h k lk w hk hlk hw;rw [e1,e2] at hg;rw [e1] at h5;rw [e2] at h6;exact hg (Qmo hP hl hu hv (h5.trans h6.symm) (k-j) lk (by rw [show j+(k-j)=k by omega];exact hlk))
theorem HSt.bd (hok:Qap N){a b:Nat}{d:Int}(h:HSt N ls av a b d):0≤d∧d≤70379481595904:=by
 rcases h with ⟨_,h⟩|⟨j,l,y,z,v,_,_,_,hz,_,_,_,h7,h8,h9,rfl⟩
 · have:=h.bd hok;omega
 · have h1:=(h8.bd hok).resolve_left h9
   have h2:=(Qdq (hok.arcs z (Zm hz)).w).resolve_left h7;omega
theorem Qcy.ent {cl:List Int}(hok:Qap N)(hP:Qaw N.vs.length ls)(h:Qcy N ls cl){j:Nat}{l:List Int}{a b:Nat}{y z:Tri} (hl:ls[j]?=some l) (hy:N.ar[a]?=some y) (hz:N.ar[b]?=some z) (h1:Qaa l y.1≠Qaa l y.2.1) (h2:Qaa l z.1=Qaa l y.2.1) (h3:Qaa l z.2.1≠Qaa l y.2.1) :
 ∃ (c:Nat) (x:Qak) (i k:Nat) (v:Int),Qaa l y.2.1=(c:Int)∧(Qaf N.ar l)[c]?=some x∧x.1[i]?=some (a:Int)∧x.2[k]?=some (b:Int)∧Qfg N ls (Qey (Qac N.ar ls) (Qaf N.ar l) j c x i k) j l c x i k a b∧cl[Qey (Qac N.ar ls) (Qaf N.ar l) j c x i k]?=some v∧Qfi N (Qbv l (Qaa l y.2.1)) a b v:=by
 obtain ⟨_,u,_,e2,_,hu⟩:=Qdi hok hy;have hlv:=hP.lvl l (Zm hl);obtain ⟨c,hc,hcm,_⟩:=Qcl hlv (v:=u) hu;rw [←e2] at hc;have hcl:c<(Qaf N.ar l).length:=by rw [Qan];exact hcm
 obtain ⟨x,hx⟩:∃ x,(Qaf N.ar l)[c]?=some x:=⟨_,Zg hcl⟩;obtain ⟨i,hi⟩:=Yr ((Qcv hx).2 ⟨y,hy,by rw [←hc];exact h1,hc⟩);obtain ⟨k,hk⟩:=Yr ((Qbo hx).2 ⟨z,hz,by rw [h2];exact hc,by rw [←hc];exact h3⟩);have he:Qfg N ls (Qey (Qac N.ar ls) (Qaf N.ar l) j c x i k) j l c x i k a b:=⟨hl,hx,hi,hk,rfl⟩;obtain ⟨v,hv,hv2⟩:=h.at_ he;exact ⟨c,x,i,k,v,hc,hx,hi,hk,he,hv,by rw [hc];exact hv2⟩
end
end Go.Proofs.YtdheeddnkdhfeaaGreatDoor
namespace Go.Proofs.YtdheeddnkdhfeaaGreatDoor
open Go.RowKit Go.Maps Go.WideMaps Go.Proofs.Tryz
theorem pr_arr:ArrKey prog 264 3 2:=⟨underlying264,by kernel_rfl,by kernel_rfl,by kernel_rfl⟩
theorem Qnj:Keyed prog 264:=Keyed.of_law pr_arr.law
def kq (x y:Nat):Lit:=.string (keyBytes [.int .i64 (x:Int),.int .i64 (y:Int)])
theorem pr_size:∃ m,Tryz.prog.types.size=m+1:=⟨Tryz.prog.types.size-1,by kernel_rfl⟩
theorem Qsm {x y:Nat}(hx:x≤1000000000000)(hy:y≤1000000000000):keyOf prog 264 (.agg #[.int .i64 (x:Int),.int .i64 (y:Int)])=some (kq x y):=keyOf_pair pr_arr underlying3 pr_size (WalkArith.wf_i64 (by omega)) (WalkArith.wf_i64 (by omega))
theorem kq_ne {x y x' y':Nat}(hx:x≤1000000000000)(hy:y≤1000000000000)(hx':x'≤1000000000000)(hy':y'≤1000000000000) (h:¬(x=x'∧y=y')):kq x y≠kq x' y':=fun e=>by
 have h1:=Qsm hx hy;have h2:=Qsm hx' hy';rw [←e] at h2;have h3:=Qnj.inj h1 h2
 injection h3 with h3
 injection h3 with h3
 injection h3 with a1 a2
 injection a2 with a2 _
 injection a1 with _ a1
 injection a2 with _ a2
 exact h ⟨by omega,by omega⟩
def RV:Value→Option (DataW Value×List MemPlace):=fun v=>some (.held v,[])
def MpQ (W:World)(b n:Nat)(f:Nat→Nat→Option Value):Prop :=
 ∃ D:DataW Value,W.ownsMap prog 264 RV b n D∧IsMap D∧∀ x y:Nat,x≤1000000000000→y≤1000000000000→Maps.has D (kq x y)=(f x y).isSome∧∀ v,f x y=some v→∀ z,D.atKey (kq x y) z=.held v
theorem MpQ.new (w:World):MpQ (w.alloc (.map #[] 0)) w.heap.size 0 (fun _ _=>none) :=
 ⟨.map [],World.ownsMap_made _ _ _ _,isMap_empty,fun x y _ _=>⟨rfl,fun v h=>by cases h⟩⟩
theorem MpQ.lt {W:World}{b n:Nat}{f:Nat→Nat→Option Value}(h:MpQ W b n f):b<W.heap.size:=by
 obtain ⟨D,h1,_⟩:=h;exact h1.lt
theorem MpQ.grown {W W':World}{b n:Nat}{f:Nat→Nat→Option Value}{r:Option Nat}(h:MpQ W b n f)(hg:W.grownBy W' r)(hr:r≠some b):MpQ W' b n f:=by
 obtain ⟨D,h1,h2⟩:=h;exact ⟨D,h1.kept hg (fun e=>hr e.symm),h2⟩
theorem MpQ.below {W W':World}{b n:Nat}{f:Nat→Nat→Option Value}(h:MpQ W b n f)(hb:Below W.heap.size W W'):MpQ W' b n f:=h.grown ⟨hb.os,hb.tape,hb.output,hb.size,fun k hk _=>hb.block k hk⟩ (r:=none) (by simp)
theorem MpQ.set {W:World}{b n g i:Nat}{f:Nat→Nat→Option Value}(h:MpQ W b n f)(hg:g≠b)(v:Value):MpQ (W.setCell ⟨g,i,none⟩ v) b n f:=h.grown (Qad _ _ _ _) (fun e=>hg (by injection e))
theorem Qvy (w:World):(zeroValue 135).run prog w=.ok (.agg #[.slice none 0 0,.slice none 0 0]) w:=by kernel_rfl
section
variable {w:World} {ops:Array Oper} {rest:List Oper} {o:Oper} {a:Act} {Q:Exit→Act→World→Prop} {b n:Nat} {f:Nat→Nat→Option Value}
theorem Qnc (hg:o.guard=none)(m x:Operand)(hop:o.op=Op.lookup 159 m x true)(i k:Nat) (hm:a.eval m=.map (some b)) (h:MpQ w b n f) (hx:a.eval x=.agg #[.int .i64 i,.int .i64 k]) (hi:i≤1000000000000) (hk:k≤1000000000000)
 (hK:wpList prog ops Q rest (a.put o.dst (.tuple #[(f i k).getD (.agg #[.slice none 0 0,.slice none 0 0]),.bool (f i k).isSome])) w):wpList prog ops Q (o::rest) a w:=by
 obtain ⟨D,h1,h2,h3⟩:=h;refine wpList_lookup_own_ok w hg m x 159 hop 264 135 Qnj underlying159 RV (Qvy w) _ [] rfl b n D hm h1 _ _ hx (Qsm hi hk) (fun v ps hv=>?_);obtain ⟨g1,g2⟩:=h3 i k hi hk;rw [g1]
 have:v=(f i k).getD (.agg #[.slice none 0 0,.slice none 0 0]):=by
  have hv':DataW.held v=D.atKey (kq i k) (.held (.agg #[.slice none 0 0,.slice none 0 0])):=congrArg Prod.fst (Yv hv)
  cases hf:f i k with
  | none =>
   rw [hf] at g1;rw [atKey_of_not_has g1] at hv'
   injection hv'
  | some u =>
   rw [g2 u hf] at hv'
   injection hv'
 subst this;exact hK
end
end Go.Proofs.YtdheeddnkdhfeaaGreatDoor
namespace Go.Proofs.YtdheeddnkdhfeaaGreatDoor
open Go.RowKit Go.Proofs.Tryz
attribute [local go_sem ↓] Go.wp_at_zero Go.wp_at_succ
structure QR (V:World) (qb g o:Nat) (N:Qam) (ls:List (List Int)) (s t:Nat) (CA:Option Addr) (NC cC:Nat) (cl:List Int) (Q:Option Addr) (L cq mb bb na:Nat):Prop where
 gr:Qes V g N
 ov:Qfy V o N.ar ls
 part:RdT V Q L ls
 costs:RdI V CA NC cl
 q0:V.cell? ⟨qb,0,none⟩=some (.pointer (some ⟨g,0,none⟩))
 q1:V.cell? ⟨qb,1,none⟩=some (.pointer (some ⟨o,0,none⟩))
 q2:V.cell? ⟨qb,2,none⟩=some (.slice CA NC cC)
 q3:V.cell? ⟨qb,3,none⟩=some (.int .i64 s)
 q4:V.cell? ⟨qb,4,none⟩=some (.int .i64 t)
 q5:V.cell? ⟨qb,5,none⟩=some (.slice Q L cq)
 q6:V.cell? ⟨qb,6,none⟩=some (.map (some mb))
 q7:V.cell? ⟨qb,7,none⟩=some (.slice (some ⟨bb,0,none⟩) na na)
section
variable {V W:World} {qb g o:Nat} {N:Qam} {ls:List (List Int)} {s t:Nat} {CA:Option Addr} {NC cC:Nat} {cl:List Int} {Q:Option Addr} {L cq mb bb na:Nat}
theorem QR.le (h:QR V qb g o N ls s t CA NC cC cl Q L cq mb bb na)(hl:Le V W):QR W qb g o N ls s t CA NC cC cl Q L cq mb bb na :=
 ⟨h.gr.le hl,h.ov.le hl,h.part.le hl,h.costs.le hl,hl _ _ h.q0,hl _ _ h.q1,hl _ _ h.q2,hl _ _ h.q3,hl _ _ h.q4,hl _ _ h.q5,hl _ _ h.q6,hl _ _ h.q7⟩
theorem QR.below (h:QR V qb g o N ls s t CA NC cC cl Q L cq mb bb na)(hb:Below V.heap.size V W):QR W qb g o N ls s t CA NC cC cl Q L cq mb bb na:=h.le (Le.below hb)
end
set_option maxHeartbeats 2000000 in
theorem Qof (w:World)(qb g o:Nat)(N:Qam) (ls:List (List Int)) (s t:Nat) (CA:Option Addr) (NC cC:Nat) (cl:List Int) (Q:Option Addr) (L cq mb bb na a:Nat) (x xs xt:Tri) (h:QR w qb g o N ls s t CA NC cC cl Q L cq mb bb na) (hok:Qap N) (hP:Qaw N.vs.length ls) (hx:N.ar[a]?=some x) (hxs:N.ar[s]?=some xs) (hxt:N.ar[t]?=some xt) :
 Calls prog 105 #[.pointer (some ⟨qb,0,none⟩),.int .i64 a] w fun e w'=>e=.returned (.int .i64 ((Qgt ls (toV N a) [toV N s,frV N t]:Nat):Int))∧Below w.heap.size w w':=by
 have HLV:=Zh (show lvI N.vs.length ls x.2.1 xs.2.1 xt.1=((Qgt ls (toV N a) [toV N s,frV N t]:Nat):Int) from by
  have o1:=hok.arcs x (Zm hx);have o2:=hok.arcs xs (Zm hxs);have o3:=hok.arcs xt (Zm hxt);unfold lvI;rw [if_pos ⟨⟨o1.g0,o1.g1⟩,⟨o2.g0,o2.g1⟩,⟨o3.f0,o3.f1⟩⟩,(Qbr hx).1,(Qbr hxs).1,(Qbr hxt).2.1])
 have HTA:=Zh (fun V (hV:Below w.heap.size w V)=>Qeu g a N x V (h.gr.below hV) hx);have HTS:=Zh (fun V (hV:Below w.heap.size w V)=>Qeu g s N xs V (h.gr.below hV) hxs);have HFT:=Zh (fun V (hV:Below w.heap.size w V)=>Qgf g t N xt V (h.gr.below hV) hxt);have HLO:=Zh (fun V (hV:Below w.heap.size w V)=>Qtj Q L cq N.vs.length ls x.2.1 xs.2.1 xt.1 V (h.part.below hV) hP)
 have HSX:=Zh (show ∀ V,Below w.heap.size w V→V.cell? ⟨qb,0,none⟩=some (.pointer (some ⟨g,0,none⟩))∧V.cell? ⟨qb,3,none⟩=some (.int .i64 s)∧V.cell? ⟨qb,4,none⟩=some (.int .i64 t)∧V.cell? ⟨qb,5,none⟩=some (.slice Q L cq) from
  fun V hV=>⟨(h.below hV).q0,(h.below hV).q3,(h.below hV).q4,(h.below hV).q5⟩)
 clear h hok hP hx hxs hxt
 go_enter func105,ntmps105
 go_wp2_with fail
 refine wp_region_held_drew (S:=fun V=>Below w.heap.size w V) (by kernel_rfl) (Zr _ _).drew (fun _=>?_);refine tz 0 5 ?_;refine tz 1 6 ?_;refine tz 2 7 ?_;refine tz 3 8 ?_;refine tz 4 9 ?_;refine tz 5 10 ?_;refine tz 6 11 ?_;refine tz 7 12 ?_;refine tz 8 13 ?_;refine tz 10 15 ?_;refine tz 11 16 ?_;refine tz 12 17 ?_;refine tz 13 18 ?_;refine tz 14 19 ?_;refine tz 15 20 ?_;refine tz 16 21 ?_;refine tz 17 22 ?_;refine tz 19 24 ?_;refine tz 20 25 ?_;refine tz 21 26 ?_;refine tz 22 27 ?_;refine tz 23 28 ?_;refine tz 24 29 ?_;refine tz 25 30 ?_;refine tz 26 31 ?_;refine Zk 9 (fun K hK=>?_);go_simp;with_reducible refine (HTA.out _ (Zr _ _).drew).mono ?_
 rintro r w' ⟨rfl,rfl⟩;go_simp;refine hK.out _ _ (Zr _ _).drew (fun _=>?_);clear hK K;refine Zk 18 (fun K hK=>?_);go_simp;with_reducible refine (HTS.out _ (Zr _ _).drew).mono ?_
 rintro r w' ⟨rfl,rfl⟩;go_simp;refine hK.out _ _ (Zr _ _).drew (fun _=>?_);clear hK K;refine Zk 27 (fun K hK=>?_);go_simp;with_reducible refine (HFT.out _ (Zr _ _).drew).mono ?_
 rintro r w' ⟨rfl,rfl⟩;go_simp;refine hK.out _ _ (Zr _ _).drew (fun _=>?_);clear hK K;refine Zk 28 (fun K hK=>?_);go_simp;with_reducible refine (HLO.out _ (Zr _ _).drew).mono ?_
 rintro r w2 ⟨rfl,hb2⟩;rw [HLV.out];have hb2':Below w.heap.size w w2:=(Zr _ _).drew.trans hb2;go_simp;refine hK.out _ _ hb2' (fun _=>?_);clear hK K;refine tz 29 4 ?_;refine Zd ?_;clear hb2 HSX
 go_wp2_with fail
 go_ret
 exact ⟨rfl,hb2'⟩
set_option maxRecDepth 20000 in
set_option maxHeartbeats 1000000 in
theorem Qkm (w:World)(g o:Nat)(N:Qam) (ls:List (List Int)) (s t:Nat) (CA:Option Addr) (NC cC:Nat) (cl:List Int) (hg:Qes w g N) (ho:Qfy w o N.ar ls) (hc:RdI w CA NC cl) (hok:Qap N) (hP:Qaw N.vs.length ls) :
 Calls prog 46 #[.pointer (some ⟨g,0,none⟩),.pointer (some ⟨o,0,none⟩),.slice CA NC cC,.int .i64 s,.int .i64 t] w fun e w'=>∃ qb Q cq mb bb,e=.returned (.pointer (some ⟨qb,0,none⟩)) ∧
  QR (msk w' (fun b=>b<w'.heap.size∧b≠bb∧b≠mb)) qb g o N ls s t CA NC cC cl Q ls.length cq mb bb N.ar.length∧MpQ w' mb 0 (fun _ _=>none)∧Blk w' bb 3 (Qcj (List.replicate N.ar.length 0))∧(w.heap.size≤mb∧w.heap.size≤bb∧mb≠bb)∧Below w.heap.size w w':=by
 have HG:=Zh hg;have HO:=Zh ho;have HC:=Zh hc;obtain ⟨na,hna⟩:∃ na,na=N.ar.length:=⟨_,rfl⟩;have hla:na≤16384:=by rw [hna];exact hok.la
 have hmk:=Qde na (by omega);have HGA:=Zh (fun V (hV:Below w.heap.size w V)=>(show Calls prog 99 #[.pointer (some ⟨g,0,none⟩)] V fun e w'=>e=.returned (.int .i64 na)∧V=w' by rw [hna];exact Qgb g N V (hg.below hV)))
 have HPT:=Zh (Qkq o N.ar ls w ho (by have:=hP.l6;omega) (fun l hl=>by have:=(hP.lvl l hl).len;have:=hok.lv;omega));obtain ⟨L,hL⟩:∃ L,L=ls.length:=⟨_,rfl⟩;rw [←hL] at HPT;rw [←hna,←hL];clear hg ho hc hok hP hna hL
 go_enter func46,ntmps46
 go_wp2_with fail
 with_reducible refine HPT.out.mono ?_
 rintro r w1 ⟨Q,cq,rfl,hQ,hb1⟩;have HQ:=Zh hQ;have hfl:∀ V,(Instr.field 132 (.agg #[.slice Q L cq]) 0).run prog V=.ok (.slice Q L cq) V:=fun V=>by rfl
 have hmm:=@run_makeMap prog;clear hQ HPT
 go_wp2_with fail
 (refine Qae ?_;intro w2 hw2)
 have hb2:Below w1.heap.size w1 w2:=by rw [hw2];exact Qah
 have HM2:=Zh (show MpQ w2 w1.heap.size 0 (fun _ _=>none) by rw [hw2];exact MpQ.new w1)
 clear hw2;have hb12:=Zb hb1 hb2;with_reducible refine (HGA.out w2 hb12).mono ?_
 rintro r w' ⟨rfl,rfl⟩
 go_wp2_with fail
 obtain ⟨bb,hbb⟩:∃ b,b=w2.heap.size:=⟨_,rfl⟩;obtain ⟨mb,hmb⟩:∃ b,b=w1.heap.size:=⟨_,rfl⟩;rw [←hbb,←hmb];rw [←hmb] at HM2;have s12:mb<w2.heap.size:=HM2.out.lt
 have s1:w.heap.size≤mb:=by rw [hmb];exact hb1.size
 obtain ⟨w3,hw3⟩:∃ V,V=w2.alloc (.cells (Qbp (.int .i64 0) na) 3):=⟨_,rfl⟩;rw [←hw3];have hB3:Blk w3 bb 3 (Qcj (List.replicate na 0)):=by rw [hw3,←Qcf];exact Blk.new' _ _ _ hbb
 have hb3:Below w2.heap.size w2 w3:=by rw [hw3];exact (Zr _ _).alloc (Zn _) _
 have s3:w3.heap.size=bb+1:=by rw [hw3,World.size_alloc,hbb]
 clear hw3;obtain ⟨w4,hw4⟩:∃ V,V=w3.alloc (.cells #[.pointer (some ⟨g,0,none⟩),.pointer (some ⟨o,0,none⟩),.slice CA NC cC,.int .i64 s,.int .i64 t,.slice Q L cq,.map (some mb),.slice (some ⟨bb,0,none⟩) na na] 197):=⟨_,rfl⟩;rw [←hw4];have hB4:Blk w4 (bb+1) 197 #[.pointer (some ⟨g,0,none⟩),.pointer (some ⟨o,0,none⟩),.slice CA NC cC,.int .i64 s,.int .i64 t,.slice Q L cq,.map (some mb),.slice (some ⟨bb,0,none⟩) na na]:=by rw [hw4];exact Blk.new' _ _ _ s3.symm
 have hb4:Below w3.heap.size w3 w4:=by rw [hw4];exact (Zr _ _).alloc (Zn _) _
 have s4:w4.heap.size=bb+2:=by rw [hw4,World.size_alloc,s3]
 clear hw4;have hb24:=Zb hb3 hb4;have hb14:=Zb hb2 hb24;have hb04:=Zb hb1 hb14;have hle:Le w (msk w4 (fun b=>b<w4.heap.size∧b≠bb∧b≠mb)):=Le.mskBelow hb04 (fun b hb=>⟨by omega,by omega,by omega⟩);have hmk4:∀ i v,w4.cell? ⟨bb+1,i,none⟩=some v→(msk w4 (fun b=>b<w4.heap.size∧b≠bb∧b≠mb)).cell? ⟨bb+1,i,none⟩=some v:=fun i v h=>Qer h ⟨by omega,by omega,by omega⟩
 go_ret
 refine ⟨bb+1,Q,cq,mb,bb,rfl,⟨HG.out.le hle,HO.out.le hle,(HQ.out.le (fun a v h=>?_)),HC.out.le hle,hmk4 _ _ (Zq hB4),hmk4 _ _ (Zq hB4),hmk4 _ _ (Zq hB4),hmk4 _ _ (Zq hB4),hmk4 _ _ (Zq hB4),hmk4 _ _ (Zq hB4),hmk4 _ _ (Zq hB4),hmk4 _ _ (Zq hB4)⟩,HM2.out.below hb24,hB3.below hb4 hB3.lt,⟨s1,by omega,by omega⟩,hb04⟩;obtain ⟨h1,h2⟩:=Qba.1 h;exact Qba.2 ⟨⟨by omega,by omega,by omega⟩,Zc hb14 (Zn _) h2⟩
structure NxtP (N:Qam) (ls:List (List Int)) (av:List Int) (a:Nat) (os cs:List Int):Prop where
 len:cs.length=os.length
 to_:∀ (k:Nat) (o v:Int),os[k]?=some o→cs[k]?=some v→∃ (b:Nat) (y:Tri),o=(b:Int)∧N.ar[b]?=some y∧0≤v∧v≤1152921504606846976∧(v≠1152921504606846976→y.2.2≠1152921504606846976→HSt N ls av a b (v+y.2.2))
 all:∀ (b:Nat) (d:Int),HSt N ls av a b d→∃ (k:Nat) (v:Int) (y:Tri),os[k]?=some (b:Int)∧cs[k]?=some v∧N.ar[b]?=some y∧v≠1152921504606846976∧y.2.2≠1152921504606846976∧d=v+y.2.2
section
variable {N:Qam} {ls:List (List Int)} {av:List Int} {s a:Nat}
theorem Qvl (hok:Qap N){x:Tri} (hx:N.ar[a]?=some x) (h0:Qgt ls (toV N a) av=0):NxtP N ls av a (idx (·.1) N.ar x.2.1) ((idx (·.1) N.ar x.2.1).map (fun b=>Qaq N a b.toNat)):=by
 refine ⟨by simp,fun k o v ho hv=>?_,fun b d hd=>?_⟩
 · obtain ⟨b,y,rfl,hy,hf⟩:=Qfm.1 (Zm ho)
   rw [Yt,ho] at hv;have hv':Qaq N a b=v:=by simpa using hv
   subst hv';have hb:=Qcu hok a b;exact ⟨b,y,rfl,hy,by omega,by omega,fun h1 h2=>.inl ⟨h0,y,hy,h1,h2,rfl⟩⟩
 · rcases hd with ⟨_,hd⟩|⟨j,_,_,_,_,hj,_⟩
   · obtain ⟨x',y,hx',hy,e,h1,h2,h3⟩:=hd.ends
     rw [hx] at hx'
     cases hx'
     obtain ⟨k,hk⟩:=Yr (Qfm.2 ⟨b,y,rfl,hy,e.symm⟩:(b:Int)∈idx (·.1) N.ar x.2.1);exact ⟨k,Qaq N a b,y,hk,by rw [Yt,hk];simp,hy,h1,h2,h3⟩
   · omega
theorem Qxb (hok:Qap N){cl:List Int}(hA:Qcy N ls cl){j i c:Nat}{l:List Int}{x:Qak}{y:Tri} (hj:Qgt ls (toV N a) av=j+1) (hl:ls[j]?=some l) (hy:N.ar[a]?=some y) (hg:Qaa l y.1≠Qaa l y.2.1)
 (hc:Qaa l y.2.1=(c:Int)) (hx:(Qaf N.ar l)[c]?=some x) (hi:x.1[i]?=some (a:Int)):NxtP N ls av a x.2 ((cl.drop (Qey (Qac N.ar ls) (Qaf N.ar l) j c x i 0)).take x.2.length):=by
 have hat:∀ (k:Nat) (o:Int),x.2[k]?=some o→∃ (b:Nat) (z:Tri) (v:Int),o=(b:Int)∧N.ar[b]?=some z∧Qaa l z.1=(c:Int)∧Qaa l z.2.1≠(c:Int)∧((cl.drop (Qey (Qac N.ar ls) (Qaf N.ar l) j c x i 0)).take x.2.length)[k]?=some v∧Qfi N (Qbv l c) a b v:=by
  intro k o ho;have hk:=(Zs ho).1;have hm:=Zm ho;obtain ⟨b,rfl⟩:=Qcz hx ho;obtain ⟨z,hz,h1,h2⟩:=(Qbo hx).1 hm;obtain ⟨v,hv,hv2⟩:=hA.at_ (show Qfg N ls (Qey (Qac N.ar ls) (Qaf N.ar l) j c x i k) j l c x i k a b from ⟨hl,hx,hi,ho,rfl⟩)
  exact Kcc
 have hlen:((cl.drop (Qey (Qac N.ar ls) (Qaf N.ar l) j c x i 0)).take x.2.length).length=x.2.length:=by
  exact Kbc
 refine ⟨hlen,fun k o v ho hv=>?_,fun b d hd=>?_⟩
 · obtain ⟨b,z,v',rfl,hz,h1,h2,h3,h4⟩:=hat k o ho
   rw [hv] at h3
   cases h3
   have hb:=h4.bd hok;refine ⟨b,z,rfl,hz,by omega,by omega,fun g1 g2=>.inr ⟨j,l,y,z,v,hj,hl,hy,hz,hg,by rw [h1,hc],by rw [hc];exact h2,g2,by rw [hc];exact h4,g1,rfl⟩⟩
 · rcases hd with ⟨h0,_⟩|⟨j',l',y',z,v,hj',hl',hy',hz,_,h5,h6,h7,h8,h9,rfl⟩
   · omega
   · rw [hj] at hj'
     obtain rfl:j=j':=by omega
     rw [hl] at hl'
     cases hl'
     rw [hy] at hy'
     cases hy'
     rw [hc] at h5 h6 h8;obtain ⟨k,hk⟩:=Yr ((Qbo hx).2 ⟨z,hz,h5,h6⟩);obtain ⟨b',z',v',e,hz',_,_,h3,h4⟩:=hat k _ hk;obtain rfl:b=b':=by omega
     rw [hz] at hz'
     cases hz'
     obtain rfl:=Lst.uniq h8 h4;exact ⟨k,v,z,hk,h3,hz,h9,h7,rfl⟩
inductive Via (N:Qam) (ls:List (List Int)) (av:List Int) (s:Nat) (bf:List Int) (dn:Nat→Option Int):Nat→Int→List (Nat×Nat)→Prop
 | start:Via N ls av s bf dn s 0 []
 | step {p q:Nat} {c d:Int} {hs:List (Nat×Nat)}:Via N ls av s bf dn p c hs→dn p=some c→q≠s→bf[q]?=some (p:Int)→HSt N ls av p q d→Via N ls av s bf dn q (c+d) (hs ++[(p,q)])
inductive HopP (N:Qam) (ls:List (List Int)) (av:List Int) (s:Nat):Nat→Int→List (Nat×Nat)→Prop
 | start:HopP N ls av s s 0 []
 | step {p q:Nat} {c d:Int} {hs:List (Nat×Nat)}:HopP N ls av s p c hs→HSt N ls av p q d→HopP N ls av s q (c+d) (hs ++[(p,q)])
variable {bf:List Int} {dn dn':Nat→Option Int} {q:Nat} {c:Int} {hs:List (Nat×Nat)}
theorem Via.hopP (h:Via N ls av s bf dn q c hs):HopP N ls av s q c hs:=by
 induction h with
 | start=>exact .start
 | step _ _ _ _ h2 ih=>exact ih.step h2
theorem Via.set {r:Nat}{v:Int}(h:Via N ls av s bf dn q c hs)(hq:q≠r)(hr:dn r=none):Via N ls av s (bf.set r v) dn q c hs:=by
 induction h with
 | start=>exact .start
 | @step p q c d hs h1 h2 h3 h4 h5 ih =>
  have hp:p≠r:=fun e=>by subst e;rw [hr] at h2;cases h2
  exact .step (ih hp) h2 h3 (by rw [Yh (fun e=>hq e.symm)];exact h4) h5
theorem Via.more (h:Via N ls av s bf dn q c hs)(hd:∀ r e,dn r=some e→dn' r=some e):Via N ls av s bf dn' q c hs:=by
 induction h with
 | start=>exact .start
 | step _ h2 h3 h4 h5 ih=>exact .step ih (hd _ _ h2) h3 h4 h5
theorem Via.uniq {c':Int} {hs':List (Nat×Nat)} (h:Via N ls av s bf dn q c hs) (g:Via N ls av s bf dn q c' hs'):hs=hs':=by
 induction h generalizing c' hs' with
 | start =>
  cases g with
  | start=>rfl
  | step _ _ h _ _=>exact absurd rfl h
 | step h1 h2 h3 h4 h5 ih =>
  cases g with
  | start=>exact absurd rfl h3
  | step g1 g2 g3 g4 g5 =>
   rw [h4] at g4;have e:=Yv g4;obtain rfl:=Int.ofNat.inj e;rw [ih g1]
noncomputable def Qpi (N:Qam) (ls:List (List Int)) (av:List Int) (s:Nat) (bf:List Int) (dn:Nat→Option Int) (q:Nat):Nat:=by
 classical exact if h:∃ c hs,Via N ls av s bf dn q c hs then (Classical.choose (Classical.choose_spec h)).length else 0
theorem Qos (h:Via N ls av s bf dn q c hs):Qpi N ls av s bf dn q=hs.length:=by
 unfold Qpi;have he:∃ c hs,Via N ls av s bf dn q c hs:=⟨c,hs,h⟩;rw [dif_pos he];exact congrArg List.length ((Classical.choose_spec (Classical.choose_spec he)).uniq h)
structure Qyh (N:Qam) (ls:List (List Int)) (av:List Int) (s:Nat) (bf:List Int) (dn hp:Nat→Option Int) (k:Nat):Prop where
 done:∀ q c,dn q=some c→∃ hs,Via N ls av s bf dn q c hs∧hs.length+1≤k
 wait:∀ q c,hp q=some c→∃ hs,Via N ls av s bf dn q c hs∧hs.length≤k
 st:dn s≠none∨(∀ q,dn q=none)∧∀ q,q≠s→hp q=none
theorem Qyh.init {hp:Nat→Option Int}(h:∀ q,hp q=if q=s then some 0 else none):Qyh N ls av s bf (fun _=>none) hp 0:=by
 refine ⟨fun q c e=>(by cases e),fun q c e=>?_,.inr ⟨fun _=>rfl,fun q hq=>by rw [h q,if_neg hq]⟩⟩
 rw [h q] at e
 split at e
 · rename_i h1
   subst h1
   cases e
   exact ⟨[],.start,Zn _⟩
 · cases e
theorem Qyh.take {hp:Nat→Option Int}{p k:Nat}(h:Qyh N ls av s bf dn hp k)(hp1:hp p=some c)(hd:dn p=none):Qyh N ls av s bf (fun q=>if q=p then some c else dn q) (fun q=>if q=p then none else hp q) (k+1):=by
 have hm:∀ r e,dn r=some e→(fun q=>if q=p then some c else dn q) r=some e:=fun r e hr=>by
  have:r≠p:=fun e'=>by subst e';rw [hd] at hr;cases hr
  simp [this,hr]
 refine ⟨fun q e hq=>?_,fun q e hq=>?_,?_⟩
 · by_cases hqp:q=p
   · subst hqp
     simp at hq;subst hq;obtain ⟨hs,h1,h2⟩:=h.wait q c hp1;exact ⟨hs,h1.more hm,by omega⟩
   · simp [hqp] at hq
     obtain ⟨hs,h1,h2⟩:=h.done q e hq;exact ⟨hs,h1.more hm,by omega⟩
 · by_cases hqp:q=p
   · simp [hqp] at hq
   · simp [hqp] at hq
     obtain ⟨hs,h1,h2⟩:=h.wait q e hq;exact ⟨hs,h1.more hm,by omega⟩
 · left
   exact Kbo
theorem Qyh.put {hp hp':Nat→Option Int}{p b k:Nat}{d:Int}(h:Qyh N ls av s bf dn hp k)(hp1:dn p=some c)(hb:dn b=none)(hbl:b<bf.length)(hst:HSt N ls av p b d)(h1:∀ r,r≠b→hp' r=hp r) (h2:hp' b=some (c+d)):Qyh N ls av s (bf.set b (p:Int)) dn hp' k:=by
 have hs0:dn s≠none:=by
  rcases h.st with g|g
  · exact g
  · rw [g.1 p] at hp1;cases hp1
 refine ⟨fun q e hq=>?_,fun q e hq=>?_,?_⟩
 · obtain ⟨hs,g,g2⟩:=h.done q e hq
   exact ⟨hs,g.set (fun e'=>by subst e';rw [hb] at hq;cases hq) hb,g2⟩
 · by_cases hqb:q=b
   · subst hqb
     rw [h2] at hq
     cases hq
     obtain ⟨hs,g,g2⟩:=h.done p c hp1;have hqs:q≠s:=fun e=>hs0 (by rw [←e];exact hb)
     exact ⟨_,.step (g.set (fun e'=>by subst e';rw [hb] at hp1;cases hp1) hb) hp1 hqs (by rw [Yg hbl]) hst,by rw [Yp,List.length_singleton];exact g2⟩
   · rw [h1 q hqb] at hq
     obtain ⟨hs,g,g2⟩:=h.wait q e hq;exact ⟨hs,g.set hqb hb,g2⟩
 · exact .inl hs0
end
set_option maxHeartbeats 400000 in
theorem Qju (A:Option Addr)(n c:Nat)(l:List Int)(v:Int)(w:World)(h:RdI w A n l)(hn:n≤1000000000) :
 Calls prog 30 #[.slice A n c,.int .i64 v] w fun e w'=>e=.returned (.int .i64 (plI l v))∧w=w':=by
 have HR:=Zh h;have HL:=Zh h.1;clear h
 go_enter func30,ntmps30
 go_wp2_with fail
 go_loop [5] (fun q=>∃ k:Nat,k≤n∧q=.int .i64 k∧∀ j x,j<k→l[j]?=some x→x≠v) (fun q=>n-(intOf q).toNat)
 case atStart=>exact ⟨0,Nat.zero_le _,rfl,fun _ _ h=>absurd h (Nat.not_lt_zero _)⟩
 case round =>
  exact Kaf
theorem Qcw (A B C:Option Addr)(n m k c d e:Nat)(a:Int)(w:World)(h0:0≤a)(h1:a<m) :
 Calls prog 10 #[.agg #[.slice A n c,.slice B m d,.slice C k e],.int .i64 a] w fun r w'=>r=.returned (.bool true)∧Below w.heap.size w w':=by
 go_enter func10,ntmps10
 exact Kbn
theorem idx_at {f:Tri→Int}{l:List Tri}{k:Nat}{y:Tri} (h:l[k]?=some y):∀ j,k<j→j≤l.length→(idx f (l.take j) (f y))[(idx f (l.take k) (f y)).length]?=some (k:Int):=by
 intro j
 induction j with
 | zero=>intro h1;omega
 | succ j ih =>
  intro h1 h2;obtain ⟨z,hz⟩:∃ z,l[j]?=some z:=⟨_,Zg (by omega)⟩;rw [Qej hz]
  by_cases e:k=j
  · subst e
    rw [h] at hz
    cases hz
    rw [Yb (Zn _),Yy];simp
  · have:=ih (by omega) (by omega)
    rw [Yc (Zs this).1];exact this
theorem Qyf {f:Tri→Int}{l:List Tri}{k:Nat}{y:Tri} (h:l[k]?=some y):plI (idx f l (f y)) (k:Int)=((idx f (l.take k) (f y)).length:Nat):=by
 have hk:=(Zs h).1;have h1:=idx_at (f:=f) h l.length hk (Zn _);rw [List.take_length] at h1;refine Qnf h1 (fun j x hj hx=>?_);have hs:=Qvb f (f y) l;rw [List.pairwise_iff_getElem] at hs;obtain ⟨p1,e1⟩:=Zs hx;obtain ⟨p2,e2⟩:=Zs h1;have:=hs j _ p1 p2 hj;omega
set_option maxHeartbeats 1000000 in
theorem Qoj (A:Option Addr)(n c:Nat)(t:Qfv)(i o:Nat)(w:World)(h:RdI w A n t.costs)(ht:Qnr t) (hi:(i:Int)<t.ins) (ho:(o:Int)<t.outs) :
 Calls prog 52 #[.agg #[.int .i64 t.ins,.int .i64 t.outs,.slice A n c],.int .i64 i,.int .i64 o] w fun e w'=>∃ x,t.costs[i*t.outs.toNat+o]?=some x∧e=.returned (.int .i64 x)∧Below w.heap.size w w':=by
 obtain ⟨p,q,cs⟩:=t;simp only at h hi ho ⊢;have i0:0≤p:=ht.i0;have i16:p≤16:=ht.i16;have o0:0≤q:=ht.o0;have o16:q≤16:=ht.o16;have hm:=Qnv i0 i16 o0 o16;have hl:(cs.length:Int)=p*q:=ht.len
 have hk:(i:Int)*q+o<p*q:=by
  exact Kcg
 have hk0:0≤(i:Int)*q:=Int.mul_nonneg (by omega) o0;obtain ⟨k,hkk⟩:∃ k:Nat,(k:Int)=(i:Int)*q+o:=⟨((i:Int)*q+o).toNat,by omega⟩
 have hke:i*q.toNat+o=k:=by
  exact Kcj
 rw [hke];have hkl:k<n:=by rw [←h.1];omega
 obtain ⟨b,oo,x,hA,hx,hc⟩:=h.at_ hkl;subst hA;have e1:IntKind.i64.wrap ((i:Int)*q)=(i:Int)*q:=IntWalk.i64_in _ (by omega);have e2:IntKind.i64.wrap ((i:Int)*q+o)=(k:Int):=by rw [←hkk];exact IntWalk.i64_in _ (by omega)
 have i1:((k:Int))<(n:Int):=by omega
 have i2:¬(p≤(i:Int)):=by omega
 have i3:¬(q≤(o:Int)):=by omega
 have i4:¬((i:Int)<0):=by omega
 have i5:¬((o:Int)<0):=by omega
 have HX:=Zh hx;have hb:=Qaj hc;simp only at hb;clear hx hk hm hl hkk hke h ht
 go_enter func52,ntmps52
 go_wp2_with fail
 go_ret
 exact ⟨x,HX.out,rfl,Qah⟩
section
variable {w V V':World} {D:Nat} {cs:Array Value} {d:List Int}
end
theorem Qro (w:World)(x:Int)(h0:1152921504606846976<x) :
 Calls prog 131 #[.int .i64 x] w fun e w'=>e=.returned (.int .i64 1152921504606846976)∧w=w':=by
 have e1:decide (x<0)=false:=by simp;omega
 have e2:decide (1152921504606846976<x)=true:=by simp;omega
 go_enter func131,ntmps131
 exact Kcr
theorem Qef (w:World)(x y:Int)(h0:0≤x∧x≤1152921504606846976)(h1:0≤y∧y≤1152921504606846976) :
 Calls prog 81 #[.int .i64 x,.int .i64 y] w fun e w'=>e=.returned (.int .i64 (Qex x y))∧w=w':=by
 have HX:=Zh (Qdl w x h0.1 h0.2);have HY:=Zh (Qdl w y h1.1 h1.2)
 have HZ:=Zh (show Calls prog 131 #[.int .i64 (x+y)] w fun e w'=>e=.returned (.int .i64 (Qex x y))∧w=w' by
  unfold Qex
  split
  · exact Qro w (x+y) (by omega)
  · exact Qdl w (x+y) (by omega) (by omega))
 have e1:IntKind.i64.wrap (x+y)=x+y:=IntWalk.i64_in _ (by omega)
 go_enter func81,ntmps81
 exact Kbd
theorem Qxd {x:Int}(h:x≤1152921504606846976):Qex 0 x=x:=by
 unfold Qex
 split <;> omega
theorem Qqh (A:Option Addr)(c:Nat)(w:World)(x y z:Int) (h:RdI w A 3 [x,y,z]) (h0:0≤x∧x≤1152921504606846976) (h1:0≤y∧y≤1152921504606846976) (h2:0≤z∧z≤1152921504606846976) :
 Calls prog 106 #[.slice A 3 c] w fun e w'=>e=.returned (.int .i64 (Qex (Qex x y) z))∧w=w':=by
 obtain ⟨b,o,rfl,c0⟩:=h.2 0 x rfl;obtain ⟨b',o',e',c1⟩:=h.2 1 y rfl
 cases e'
 obtain ⟨b',o',e',c2⟩:=h.2 2 z rfl
 cases e'
 rw [Nat.add_zero] at c0;clear h;have HX:=Zh (show Calls prog 81 #[.int .i64 0,.int .i64 x] w fun e w'=>e=.returned (.int .i64 x)∧w=w' from by have:=Qef w 0 x (by omega) h0;rw [Qxd h0.2] at this;exact this)
 have HY:=Zh (Qef w x y h0 h1);have gb:=Qyl h0.1 h1.1;have HZ:=Zh (Qef w (Qex x y) z ⟨gb.1,gb.2.1⟩ h2);obtain ⟨u,hu⟩:∃ u,u=Qex x y:=⟨_,rfl⟩;rw [←hu] at HY HZ ⊢;obtain ⟨v,hv⟩:∃ v,v=Qex u z:=⟨_,rfl⟩;rw [←hv] at HZ ⊢;clear hu hv gb
 go_enter func106,ntmps106
 go_wp2_with fail
 go_loopw [3,8] (fun s i W=>W=w∧((s=.int .i64 0∧i=.int .i64 0)∨(s=.int .i64 x∧i=.int .i64 1)∨(s=.int .i64 u∧i=.int .i64 2)∨(s=.int .i64 v∧i=.int .i64 3))) (fun _ i _=>3-(intOf i).toNat)
 case atStart=>exact ⟨rfl,.inl ⟨rfl,rfl⟩⟩
 case round =>
  obtain ⟨rfl,⟨rfl,rfl⟩|⟨rfl,rfl⟩|⟨rfl,rfl⟩|⟨rfl,rfl⟩⟩:=hrel
  · go_wp2_with fail
    with_reducible refine HX.out.mono ?_
    rintro e w' ⟨rfl,rfl⟩
    go_wp2_with fail
    go_roundw
    case rel=>exact ⟨by trivial,.inr (.inl ⟨rfl,rfl⟩)⟩
    case measure=>simp [intOf]
  · go_wp2_with fail
    with_reducible refine HY.out.mono ?_
    rintro e w' ⟨rfl,rfl⟩
    go_wp2_with fail
    go_roundw
    case rel=>exact ⟨by trivial,.inr (.inr (.inl ⟨rfl,rfl⟩))⟩
    case measure=>simp [intOf]
  · go_wp2_with fail
    with_reducible refine HZ.out.mono ?_
    rintro e w' ⟨rfl,rfl⟩
    go_wp2_with fail
    go_roundw
    case rel=>exact ⟨by trivial,.inr (.inr (.inr ⟨rfl,rfl⟩))⟩
    case measure=>simp [intOf]
  · go_wp2_with fail
    exact Kaq
end Go.Proofs.YtdheeddnkdhfeaaGreatDoor
namespace Go.Proofs.YtdheeddnkdhfeaaGreatDoor
open Go.RowKit Go.Maps Go.WideMaps Go.Proofs.Tryz
attribute [local go_sem ↓] Go.wp_at_zero Go.wp_at_succ
theorem MpQ.at_ {W W':World}{b n:Nat}{f:Nat→Nat→Option Value}(h:MpQ W b n f) (e:W'.heap[b]?=W.heap[b]?):MpQ W' b n f:=by
 obtain ⟨D,⟨es,clock,h1,h2⟩,h3⟩:=h;exact ⟨D,⟨es,clock,e.trans h1,h2⟩,h3⟩
theorem Qkb {w:World}{o:Oper}{a:Act}{K:Act→World→Prop}{Q:Exit→Act→World→Prop}{b n:Nat}{f:Nat→Nat→Option Value}(m x v:Operand)(hop:o.op=Op.mapUpdate 159 m x v)(i k:Nat)(u:Value) (hm:a.eval m=.map (some b)) (h:MpQ w b n f) (hn:n≤1000000000000000000) (hx:a.eval x=.agg #[.int .i64 i,.int .i64 k]) (hv:a.eval v=u) (hi:i≤1000000000000) (hk:k≤1000000000000)
 (hK:∀ w',MpQ w' b (n+1) (fun p q=>if p=i∧q=k then some u else f p q)→w.grownBy w' (some b)→K (a.put o.dst undef) w'):Oper.wp prog o a w K Q:=by
 obtain ⟨D,h1,h2,h3⟩:=h;obtain ⟨w',hrun,g1,g2⟩:=h1.update Qnj underlying159 (by unfold maxLen;omega) (Qsm hi hk) (show RV u=some (.held u,[]) from rfl)
 have hf:=hK w' ⟨_,g1,h2.put _ _,fun p q hp hq=>by
  have hkl:WideAt.IsKeyLit (kq i k):=by simp [WideAt.IsKeyLit,kq]
  by_cases e:p=i∧q=k
  · obtain ⟨rfl,rfl⟩:=e
    simp only [and_self,if_pos];exact ⟨has_put_same h2 hkl _,fun v e z=>by cases e;exact atKey_put_same h2 hkl _ _⟩
  · simp only [if_neg e]
    exact ⟨(has_put_other (kq_ne hp hq hi hk e) _).trans (h3 p q hp hq).1,fun v e2 z=>(atKey_put_other (kq_ne hp hq hi hk e) _ _).trans ((h3 p q hp hq).2 v e2 z)⟩⟩ g2
 unfold Oper.wp;simp [execOp,hop,hm,hx,hv,hrun,Result.andThen];exact hf
def MpC (V:World)(G:Nat→Prop)(ar:List Tri) (ls:List (List Int)) (f:Nat→Nat→Option Value):Prop :=
 ∀ i k u,f i k=some u→∃ j l x A1 n1 c1 A2 n2 c2,i=j+1∧ls[j]?=some l∧(Qaf ar l)[k]?=some x∧u=.agg #[.slice A1 n1 c1,.slice A2 n2 c2]∧RdI (msk V G) A1 n1 x.1∧RdI (msk V G) A2 n2 x.2
theorem MpC.le {V V':World}{G G':Nat→Prop}{ar:List Tri} {ls:List (List Int)} {f:Nat→Nat→Option Value} (h:MpC V G ar ls f) (hl:Le (msk V G) (msk V' G')):MpC V' G' ar ls f:=fun i k u hu=>by
 obtain ⟨j,l,x,A1,n1,c1,A2,n2,c2,h1,h2,h3,h4,h5,h6⟩:=h i k u hu;exact ⟨j,l,x,A1,n1,c1,A2,n2,c2,h1,h2,h3,h4,h5.le hl,h6.le hl⟩
theorem MpC.put {V:World}{G:Nat→Prop}{ar:List Tri} {ls:List (List Int)} {f:Nat→Nat→Option Value} (h:MpC V G ar ls f) {j k:Nat} {l:List Int} {x:Qak} {A1 A2:Option Addr} {n1 n2 c1 c2:Nat} (hl:ls[j]?=some l) (hx:(Qaf ar l)[k]?=some x) (h1:RdI (msk V G) A1 n1 x.1) (h2:RdI (msk V G) A2 n2 x.2) :
 MpC V G ar ls (fun p q=>if p=j+1∧q=k then some (.agg #[.slice A1 n1 c1,.slice A2 n2 c2]) else f p q):=fun p q u hu=>by
 simp only at hu
 by_cases e:p=j+1∧q=k
 · rw [if_pos e] at hu
   cases hu
   obtain ⟨rfl,rfl⟩:=e;exact ⟨j,l,x,A1,n1,c1,A2,n2,c2,rfl,hl,hx,rfl,h1,h2⟩
 · rw [if_neg e] at hu
   exact h p q u hu
structure Nxw (mb:Nat) (w w':World):Prop where
 kept:Qbc (fun b=>b≠mb) w w'
 size:w.heap.size≤w'.heap.size
 bel:∀ B,B≤mb→Below B w w'
theorem Nxw.below {mb:Nat}{w w':World}(h:Below w.heap.size w w')(hm:mb<w.heap.size):Nxw mb w w':=⟨Qbc.below h,h.size,fun B hB=>h.mono (by omega)⟩
theorem Nxw.grown {mb:Nat}{w w':World} (h:w.grownBy w' (some mb)) (hm:mb<w.heap.size):Nxw mb w w':=⟨Qbc.grown h (fun _ hb e=>hb (by injection e with e;exact e.symm)),h.size,fun B hB=>⟨h.os,h.tape,h.output,h.size,fun k hk=>h.block k (by omega) (fun e2=>by injection e2;omega)⟩⟩
theorem Nxw.trans {mb:Nat}{a b c:World}(h:Nxw mb a b)(k:Nxw mb b c):Nxw mb a c:=⟨h.kept.trans k.kept h.size,Yx h.size k.size,fun B hB=>(h.bel B hB).trans (k.bel B hB)⟩
def G2 (G:Nat→Prop)(w w':World):Nat→Prop:=fun b=>G b∨(w.heap.size≤b∧b<w'.heap.size)
theorem G2.le {G:Nat→Prop}{mb:Nat}{w w':World}(h:Nxw mb w w')(hG:¬G mb):Le (msk w G) (msk w' (G2 G w w')) :=
 (Qbc.msk (h.kept.mono (fun _ hb e=>hG (e▸hb)))).trans (Qbk (fun _ hb=>.inl hb))
theorem run_cutG {P:Program}(t e:TypeId) (ht:P.underlying t=some (.slice e)) (he:P.elem t=e) (hs:(P.info? e).map (·.size)=some 1) (A:Option Addr) (n c lo r:Nat) (hlo:lo+r≤c) (h0:0<r) (w:World) :
 (Instr.slice t (.slice A n c) (some (.int .i64 (lo:Int))) (some (.int .i64 ((lo:Int)+(r:Int)))) none).run P w=.ok (.slice (A.map (·.add lo)) r (c-lo)) w:=by
 rw [run_slice_lh (P:=P) w t A n c (by rw [he];exact ht) .i64 .i64 (lo:Int) ((lo:Int)+(r:Int)) (by omega) (by omega) (by omega),he];have e1:((lo:Int)).toNat=lo:=by omega
 have e2:((lo:Int)+(r:Int)).toNat=lo+r:=by omega
 have e3:¬c=lo:=by omega
 rw [e1,e2]
 cases hi:P.info? e with
 | none=>rw [hi] at hs;cases hs
 | some i =>
  rw [hi] at hs;simp at hs;simp [sizeOf,typeInfo,hi,Result.andThen,hs,sliced,e3]
theorem Qjf (A:Option Addr)(n c lo r:Nat)(hlo:lo+r≤c)(h0:0<r)(W:World):(Instr.slice 36 (.slice A n c) (some (.int .i64 (lo:Int))) (some (.int .i64 ((lo:Int)+(r:Int)))) none).run prog W=.ok (.slice (A.map (·.add lo)) r (c-lo)) W :=
 run_cutG 36 2 underlying36 (by kernel_rfl) (by kernel_rfl) A n c lo r hlo h0 W
theorem RdI.sub {w:World}{A:Option Addr}{n:Nat}{l:List Int}(h:RdI w A n l)(lo r:Nat)(hr:lo+r≤n):RdI w (A.map (·.add lo)) r ((l.drop lo).take r):=by
 refine ⟨by rw [Yw,List.length_drop,h.1];omega,fun i x hi=>?_⟩;have hir:i<r:=by have:=(Zs hi).1;rw [Yw] at this;omega
 rw [List.getElem?_take_of_lt hir,List.getElem?_drop] at hi;obtain ⟨b,o,rfl,hc⟩:=h.2 _ x hi;refine ⟨b,o+lo,?_,by rw [Nat.add_assoc];exact hc⟩;simp only [Option.map_some,Addr.add]
 split
 · rename_i h0;rw [show lo=0 by omega];rfl
 · rfl
theorem Qsg {cs:List Int}{i n:Nat}{z:Int} (h:cs[i]?=some z) (hn:i<n) (hl:cs.length=n):(cs.take i ++List.replicate (n-i) 0).set i z=cs.take (i+1) ++List.replicate (n-(i+1)) 0:=by
 have hl2:(cs.take i).length=i:=by rw [Yw];omega
 rw [List.set_append_right _ _ (by rw [hl2];exact Zn _),hl2,Yy,Yf (by omega),(Zs h).2];obtain ⟨m,hm⟩:∃ m,n-i=m+1:=⟨n-i-1,by omega⟩;rw [hm,show n-(i+1)=m by omega]
 simp [List.replicate_succ]
end Go.Proofs.YtdheeddnkdhfeaaGreatDoor
namespace Go.Proofs.YtdheeddnkdhfeaaGreatDoor
open Go.RowKit Go.Proofs.Tryz
attribute [local go_sem ↓] Go.wp_at_zero Go.wp_at_succ
theorem Own.rdM {w:World}{B n c:Nat}{e:TypeId}{A:Option Addr}{l:List Int}{G:Nat→Prop} (h:Own w B e 1 A n c (Qag l)) (hG:∀ b,B≤b→b<w.heap.size→G b):RdI (msk w G) A n l:=by
 have hr:=h.rds.rdI;refine ⟨hr.1,fun i x hi=>?_⟩;obtain ⟨b,o,rfl,hc⟩:=hr.2 i x hi;have:=h.lt b rfl;exact ⟨b,o,rfl,Qba.2 ⟨hG b this.1 this.2,hc⟩⟩
theorem Blk.rdM {w:World}{g:Nat}{t:TypeId}{l:List Int}{G:Nat→Prop} (h:Blk w g t (Qcj l)) (hG:G g):RdI (msk w G) (some ⟨g,0,none⟩) l.length l :=
 ⟨rfl,fun i x hi=>⟨g,0,rfl,by rw [Yz];exact Qba.2 ⟨hG,h.cellI hi⟩⟩⟩
set_option maxHeartbeats 2000000 in
theorem next0_ok (w:World)(qb g o:Nat)(N:Qam) (ls:List (List Int)) (s t:Nat) (CA:Option Addr) (NC cC:Nat) (cl:List Int) (Q:Option Addr) (L cq mb bb na a:Nat) (x:Tri) (h:QR w qb g o N ls s t CA NC cC cl Q L cq mb bb na) (hok:Qap N) (hx:N.ar[a]?=some x) :
 Calls prog 104 #[.pointer (some ⟨qb,0,none⟩),.int .i64 0,.int .i64 a] w fun e w'=>∃ (O C:Option Addr) (nO cO cC':Nat),e=.returned (.tuple #[.slice O nO cO,.slice C nO cC']) ∧
  RdI (msk w' (fun b=>w.heap.size≤b∧b<w'.heap.size)) O nO (idx (·.1) N.ar x.2.1)∧RdI (msk w' (fun b=>w.heap.size≤b∧b<w'.heap.size)) C nO ((idx (·.1) N.ar x.2.1).map (fun b=>Qaq N a b.toNat))∧nO≤16384∧Below w.heap.size w w':=by
 obtain ⟨u,v,e1,e2,hu,hv⟩:=Qdi hok hx;obtain ⟨os,hos⟩:∃ os,os=idx (·.1) N.ar x.2.1:=⟨_,rfl⟩;obtain ⟨no,hno⟩:∃ no,no=os.length:=⟨_,rfl⟩
 have hnl:no≤16384:=by
  exact Kcp
 have HTO:=Zh (Qeu g a N x w h.gr hx);have HOU:=Zh (show Calls prog 153 #[.pointer (some ⟨g,0,none⟩),.int .i64 x.2.1] w fun e w'=>∃ A n c,e=.returned (.slice A n c)∧Own w' w.heap.size 3 1 A n c (Qag os)∧Below w.heap.size w w' by rw [hos,e2];exact Qni g v N w h.gr hv)
 have HTN:=Zh (fun V (hV:Below w.heap.size w V) (b:Nat) (y:Tri) (hy:N.ar[b]?=some y)=>Qna g a b N x y V (h.gr.below hV) hx hy)
 have HCL:=Zh (show ∀ i b,os[i]?=some b→∃ (n:Nat) (y:Tri),b=(n:Int)∧N.ar[n]?=some y from fun i b hb=>by
  rw [hos] at hb;obtain ⟨n,y,rfl,hy,_⟩:=Qfm.1 (Zm hb);exact ⟨n,y,rfl,hy⟩)
 rw [←hos];obtain ⟨cs,hcs⟩:∃ cs,cs=os.map (fun b=>Qaq N a b.toNat):=⟨_,rfl⟩;rw [←hcs];have HCS:=Zh (show ∀ i n,os[i]?=some ((n:Nat):Int)→cs[i]?=some (Qaq N a n) from fun i n hb=>by rw [hcs,Yt,hb];simp)
 have HLC:=Zh (show cs.length=no by rw [hcs,List.length_map,hno])
 have HNO:=Zh hno;have HQ:=Zh (show ∀ V,Below w.heap.size w V→V.cell? ⟨qb,0,none⟩=some (.pointer (some ⟨g,0,none⟩)) from fun V hV=>(h.below hV).q0)
 have q0:=h.q0;have hmk:=Qet no (by omega);clear h hok hx hos hno hcs e1 e2 hu hv
 go_enter func104,ntmps104
 go_wp2_with fail
 with_reducible refine HTO.out.mono ?_
 rintro r w' ⟨rfl,rfl⟩
 go_wp2_with fail
 with_reducible refine HOU.out.mono ?_
 rintro r w1 ⟨O,nO,cO,rfl,hO,hb1⟩;obtain rfl:no=nO:=by rw [HNO.out];exact hO.rds.rdI.1
 have HO:=Zh hO;have HB1:=Zh hb1;clear hO hb1 q0
 go_wp2_with fail
 (refine Qai ?_;intro w2 hw2)
 have hb2:Below w1.heap.size w1 w2:=by rw [hw2];exact Qah
 have hC2:Blk w2 w1.heap.size 2 (Qcj (cs.take 0 ++List.replicate (no-0) 0)):=by rw [hw2,List.take_zero,List.nil_append,Nat.sub_zero,←Qcf];exact Qbh
 have HC2:=Zh hC2;have HB2:=Zh hb2;clear hw2 hC2 hb2
 go_loopw [37] (fun uk V=>∃ kk:Nat,kk≤no∧uk=.int .i64 kk∧Below w1.heap.size w1 V∧Blk V w1.heap.size 2 (Qcj (cs.take kk ++List.replicate (no-kk) 0))) (fun uk _=>no-(intOf uk).toNat)
 case atStart=>exact ⟨0,Nat.zero_le _,rfl,HB2.out,HC2.out⟩
 case round =>
  clear HC2 HB2;obtain ⟨kk,hkk,rfl,hb,hC⟩:=hrel;have HB:=Zh hb;have HC:=Zh hC;have hlt1:=hC.lt
  by_cases hlt:kk<no
  rotate_left
  · obtain rfl:kk=no:=by omega
    have j2:¬((kk:Int)<(kk:Int)):=by omega
    clear hb hC
    go_wp2_with fail
    refine bodyPost_ret (v:=.tuple #[.slice O kk cO,.slice (some ⟨w1.heap.size,0,none⟩) kk kk]) (by simp [results,results104,go_sem]) rfl ?_;refine ⟨O,_,kk,⟨cO,kk,rfl⟩,(HO.out.below HB.out).rdM (fun _ h1 h2=>⟨h1,h2⟩),?_,hnl,Zb HB1.out HB.out⟩;have hC:=HC.out;rw [Yy,List.replicate_zero,List.append_nil,Ye (by rw [HLC.out];exact Zn _)] at hC;have:=hC.rdM (G:=fun b=>w.heap.size≤b∧b<wr.heap.size) ⟨HB1.out.size,hlt1⟩
    rwa [HLC.out] at this
  · have j2:(kk:Int)<(no:Int):=by omega
    exact Kah
end Go.Proofs.YtdheeddnkdhfeaaGreatDoor
