/- Parts of the proof: AsQ, Mq, AsR, AsM, LsP, RfT, RoI. -/
import Derived.Test.YtdheeddnkdhfeaaGreatDoorH13
import Derived.Maps.OwnSet
import Derived.Maps.OwnOps
import Derived.WideKeyPair
namespace Go.Proofs.YtdheeddnkdhfeaaGreatDoor
open Go.RowKit Go.Proofs.Tryz
section
variable {N:Qam} {ls:List (List Int)} {s t:Nat} {d:List Int}
theorem StW.lt {a b:Nat}{e:Int}(h:StW N a b e):b<N.ar.length:=by obtain ⟨y,hy,_⟩:=h;exact (Zs hy).1
theorem StW.bd (hok:Qap N){a b:Nat}{e:Int}(h:StW N a b e):0≤e∧e≤4294967296:=by obtain ⟨y,hy,h1,h2,rfl⟩:=h;have h3:=(Qcb hok a b).resolve_left h1;have h4:=(Qdk (hok.arcs y (Zm hy)).w).resolve_left h2;omega
theorem Qyw (hok:Qap N){p:Nat}{c:Int} (h:Rch (StW N) s p c):∃ e,Rch (StW N) s p e∧e≤MB:=by exact Kcb
end
/-! A search that takes the least first and stops where its end is taken. -/
theorem Dij.hit {St:Qbf}{s t:Nat}{dn hp:Nat→Option Int}(h:Dij St s dn hp)(h0:∀ p q d,St p q d→0≤d){c:Int}(hp1:hp t=some c)(hm:∀ q e,hp q=some e→c≤e):Lst (Rch St s t) c:=.inl ⟨h.hr t c hp1,h.least h0 hp1 hm⟩
theorem Dij.miss {St:Qbf}{s t:Nat}{dn hp:Nat→Option Int}(h:Dij St s dn hp)(h0:∀ p q d,St p q d→0≤d)(he:∀ q,hp q=none)(ht:dn t=none):Lst (Rch St s t) 1152921504606846976:=.inr ⟨rfl,fun c hc=>by
 obtain ⟨e,h1,_⟩:=h.all h0 he hc;rw [ht] at h1
 cases h1⟩
section
variable {N:Qam} {ls:List (List Int)} {av:List Int} {s:Nat}
theorem Qpt (hok:Qap N)(hP:Qat N.vs.length ls)(hav:toV N s∈av){p:Nat}{c:Int} (h:Rch (HSt N ls av) s p c):Qvz N ls av p:=by
 cases h with
 | start=>exact Qmk hav
 | step _ h2 =>
  rcases h2 with ⟨h0,h3⟩|⟨j,l,y,z,v,hj,hl,hy,hz,_,h5,h6,_⟩
  {obtain ⟨x,y,hx,hy,e,_⟩:=h3.ends;exact Qph hx hy e h0};{exact Qpi hok hP hy hz hj hl h5 h6}
theorem rchH_bd (hok:Qap N)(hP:Qat N.vs.length ls) (hE:∀ (j:Nat) (l:List Int) (a b:Nat) (y z:Tri),ls[j]?=some l→N.ar[a]?=some y→N.ar[b]?=some z→Qaa l y.1≠Qaa l y.2.1→Qaa l z.1=Qaa l y.2.1→Qaa l z.2.1≠Qaa l y.2.1→∃ v,Qet N (Qbv l (Qaa l y.2.1)) a b v)
 (hs:∃ x,N.ar[s]?=some x) (hav:toV N s∈av) {p:Nat} {c:Int} (h:Rch (HSt N ls av) s p c):∃ e,Rch (HSt N ls av) s p e∧e≤MB:=by
 obtain ⟨e,h1,h2⟩:=Qyw hok (Qyv h);obtain ⟨a,c1,c2,g1,g2,g3,g4⟩:=Qps hok hP hE h1 hs hav;rcases g4 with ⟨_,rfl,rfl⟩|⟨j,l,y,hj,hl,hy,hr⟩
 {exact ⟨c1,g1,by omega⟩}
 · cases hr with
   | start=>exact ⟨c1,g1,by omega⟩
   | step _ h4 =>(exfalso);have hlen:=(hP.lvl l (Zm hl)).len;obtain ⟨_,w,_,hw,_,_,_,h5,h6,_⟩:=(Qca hok hlen).1 h4;obtain ⟨l',hl',q1⟩:=Qex hj;rw [hl] at hl';cases hl';rw [(Qby hy).1] at q1;have hm:=Qnr (ls:=ls) (v:=toV N p) (av:=av) (j:=j) ⟨l,hl,fun v hv=>by rw [(Qby hw).1,h6];exact q1 v hv⟩;obtain ⟨k,hk⟩:∃ k,Qhh ls (toV N p) av=k+1:=⟨Qhh ls (toV N p) av-1,by omega⟩;obtain ⟨lk,hlk,_⟩:=Qex hk;obtain ⟨u,v,e1,e2,hu,hv⟩:=Qda hok hw;have hg:=Qpt hok hP hav h k lk w hk hlk hw;rw [e1,e2] at hg;rw [e1] at h5;rw [e2] at h6;exact hg (Qod hP hl hu hv (h5.trans h6.symm) (k-j) lk (by rw [show j+(k-j)=k by omega];exact hlk))
theorem HSt.bd (hok:Qap N){a b:Nat}{d:Int}(h:HSt N ls av a b d):0≤d∧d≤70379481595904:=by
 rcases h with ⟨_,h⟩|⟨j,l,y,z,v,_,_,_,hz,_,_,_,h7,h8,h9,rfl⟩
 {have:=h.bd hok;omega};{have h1:=(h8.bd hok).resolve_left h9;have h2:=(Qdk (hok.arcs z (Zm hz)).w).resolve_left h7;omega}
theorem Qct.ent {cl:List Int}(hok:Qap N)(hP:Qat N.vs.length ls)(h:Qct N ls cl){j:Nat}{l:List Int}{a b:Nat}{y z:Tri} (hl:ls[j]?=some l) (hy:N.ar[a]?=some y) (hz:N.ar[b]?=some z) (h1:Qaa l y.1≠Qaa l y.2.1) (h2:Qaa l z.1=Qaa l y.2.1) (h3:Qaa l z.2.1≠Qaa l y.2.1) :
 ∃ (c:Nat) (x:Qan) (i k:Nat) (v:Int),Qaa l y.2.1=(c:Int)∧(Qaf N.ar l)[c]?=some x∧x.1[i]?=some (a:Int)∧x.2[k]?=some (b:Int)∧Qfs N ls (Qfi (Qae N.ar ls) (Qaf N.ar l) j c x i k) j l c x i k a b∧cl[Qfi (Qae N.ar ls) (Qaf N.ar l) j c x i k]?=some v∧Qet N (Qbv l (Qaa l y.2.1)) a b v:=by
 obtain ⟨_,u,_,e2,_,hu⟩:=Qda hok hy;have hlv:=hP.lvl l (Zm hl);obtain ⟨c,hc,hcm,_⟩:=Qcm hlv (v:=u) hu;rw [←e2] at hc;have hcl:c<(Qaf N.ar l).length:=by rw [Qaq];exact hcm
 obtain ⟨x,hx⟩:∃ x,(Qaf N.ar l)[c]?=some x:=⟨_,Zg hcl⟩;obtain ⟨i,hi⟩:=Yr ((Qcw hx).2 ⟨y,hy,by rw [←hc];exact h1,hc⟩);obtain ⟨k,hk⟩:=Yr ((Qbr hx).2 ⟨z,hz,by rw [h2];exact hc,by rw [←hc];exact h3⟩);have he:Qfs N ls (Qfi (Qae N.ar ls) (Qaf N.ar l) j c x i k) j l c x i k a b:=⟨hl,hx,hi,hk,rfl⟩;obtain ⟨v,hv,hv2⟩:=h.at_ he;exact ⟨c,x,i,k,v,hc,hx,hi,hk,he,hv,by rw [hc];exact hv2⟩
end
end Go.Proofs.YtdheeddnkdhfeaaGreatDoor
namespace Go.Proofs.YtdheeddnkdhfeaaGreatDoor
open Go.RowKit Go.Maps Go.WideMaps Go.Proofs.Tryz
theorem pr_arr:ArrKey prog 264 3 2:=⟨underlying264,by kernel_rfl,by kernel_rfl,by kernel_rfl⟩
theorem Qnv:Keyed prog 264:=Keyed.of_law pr_arr.law
def kq (x y:Nat):Lit:=.string (keyBytes [.int .i64 (x:Int),.int .i64 (y:Int)])
theorem pr_size:∃ m,Tryz.prog.types.size=m+1:=⟨Tryz.prog.types.size-1,by kernel_rfl⟩
theorem Qte {x y:Nat}(hx:x≤1000000000000)(hy:y≤1000000000000):keyOf prog 264 (.agg #[.int .i64 (x:Int),.int .i64 (y:Int)])=some (kq x y):=keyOf_pair pr_arr underlying3 pr_size (WalkArith.wf_i64 (by omega)) (WalkArith.wf_i64 (by omega))
theorem kq_ne {x y x' y':Nat}(hx:x≤1000000000000)(hy:y≤1000000000000)(hx':x'≤1000000000000)(hy':y'≤1000000000000) (h:¬(x=x'∧y=y')):kq x y≠kq x' y':=fun e=>by
 have h1:=Qte hx hy;have h2:=Qte hx' hy';rw [←e] at h2;have h3:=Qnv.inj h1 h2;injection h3 with h3
 injection h3 with h3
 injection h3 with a1 a2
 injection a2 with a2 _
 injection a1 with _ a1
 injection a2 with _ a2
 exact h ⟨by omega,by omega⟩
def RV:Value→Option (DataW Value×List MemPlace):=fun v=>some (.held v,[])
def MpQ (W:World)(b n:Nat)(f:Nat→Nat→Option Value):Prop :=
 ∃ D:DataW Value,W.ownsMap prog 264 RV b n D∧IsMap D∧∀ x y:Nat,x≤1000000000000→y≤1000000000000→Maps.has D (kq x y)=(f x y).isSome∧∀ v,f x y=some v→∀ z,D.atKey (kq x y) z=.held v
theorem MpQ.new (w:World):MpQ (w.alloc (.map #[] 0)) w.heap.size 0 (fun _ _=>none) :=
 ⟨.map [],World.ownsMap_made _ _ _ _,isMap_empty,fun x y _ _=>⟨rfl,fun v h=>by cases h⟩⟩
theorem MpQ.lt {W:World}{b n:Nat}{f:Nat→Nat→Option Value}(h:MpQ W b n f):b<W.heap.size:=by obtain ⟨D,h1,_⟩:=h;exact h1.lt
theorem MpQ.grown {W W':World}{b n:Nat}{f:Nat→Nat→Option Value}{r:Option Nat}(h:MpQ W b n f)(hg:W.grownBy W' r)(hr:r≠some b):MpQ W' b n f:=by obtain ⟨D,h1,h2⟩:=h;exact ⟨D,h1.kept hg (fun e=>hr e.symm),h2⟩
theorem MpQ.below {W W':World}{b n:Nat}{f:Nat→Nat→Option Value}(h:MpQ W b n f)(hb:Below W.heap.size W W'):MpQ W' b n f:=h.grown ⟨hb.os,hb.tape,hb.output,hb.size,fun k hk _=>hb.block k hk⟩ (r:=none) (by simp)
theorem MpQ.set {W:World}{b n g i:Nat}{f:Nat→Nat→Option Value}(h:MpQ W b n f)(hg:g≠b)(v:Value):MpQ (W.setCell ⟨g,i,none⟩ v) b n f:=h.grown (Qad _ _ _ _) (fun e=>hg (by injection e))
theorem Qwv (w:World):(zeroValue 135).run prog w=.ok (.agg #[.slice none 0 0,.slice none 0 0]) w:=by kernel_rfl
section
variable {w:World} {ops:Array Oper} {rest:List Oper} {o:Oper} {a:Act} {Q:Exit→Act→World→Prop} {b n:Nat} {f:Nat→Nat→Option Value}
theorem Qog (hg:o.guard=none)(m x:Operand)(hop:o.op=Op.lookup 159 m x true)(i k:Nat) (hm:a.eval m=.map (some b)) (h:MpQ w b n f) (hx:a.eval x=.agg #[.int .i64 i,.int .i64 k]) (hi:i≤1000000000000) (hk:k≤1000000000000)
 (hK:wpList prog ops Q rest (a.put o.dst (.tuple #[(f i k).getD (.agg #[.slice none 0 0,.slice none 0 0]),.bool (f i k).isSome])) w):wpList prog ops Q (o::rest) a w:=by
 obtain ⟨D,h1,h2,h3⟩:=h;refine wpList_lookup_own_ok w hg m x 159 hop 264 135 Qnv underlying159 RV (Qwv w) _ [] rfl b n D hm h1 _ _ hx (Qte hi hk) (fun v ps hv=>?_);obtain ⟨g1,g2⟩:=h3 i k hi hk;rw [g1]
 have:v=(f i k).getD (.agg #[.slice none 0 0,.slice none 0 0]):=by
  have hv':DataW.held v=D.atKey (kq i k) (.held (.agg #[.slice none 0 0,.slice none 0 0])):=congrArg Prod.fst (Yv hv)
  cases hf:f i k with
  | none =>rw [hf] at g1;rw [atKey_of_not_has g1] at hv';injection hv'
  | some u =>rw [g2 u hf] at hv';injection hv'
 subst this;exact hK
end
end Go.Proofs.YtdheeddnkdhfeaaGreatDoor
namespace Go.Proofs.YtdheeddnkdhfeaaGreatDoor
open Go.RowKit Go.Proofs.Tryz
attribute [local go_sem ↓] Go.wp_at_zero Go.wp_at_succ
structure QR (V:World) (qb g o:Nat) (N:Qam) (ls:List (List Int)) (s t:Nat) (CA:Option Addr) (NC cC:Nat) (cl:List Int) (Q:Option Addr) (L cq mb bb na:Nat):Prop where
 gr:Qfh V g N
 ov:Qgh V o N.ar ls
 part:RdT V Q L ls
 costs:RdI V CA NC cl
 q0:V.cell? ⟨qb,0,none⟩=some (.pointer (some ⟨g,0,none⟩))
 q1:V.cell? ⟨qb,1,none⟩=some (.pointer (some ⟨o,0,none⟩))
 q2:V.cell? ⟨qb,2,none⟩=some (.slice CA NC cC)
 q3:V.cell? ⟨qb,3,none⟩=some (.int .i64 s)
 q4:V.cell? ⟨qb,4,none⟩=some (.int .i64 t)
 q5:V.cell? ⟨qb,5,none⟩=some (.slice Q L cq)
 q6:V.cell? ⟨qb,6,none⟩=some (.map (some mb))
 q7:V.cell? ⟨qb,7,none⟩=some (.slice (some ⟨bb,0,none⟩) na na)
section
variable {V W:World} {qb g o:Nat} {N:Qam} {ls:List (List Int)} {s t:Nat} {CA:Option Addr} {NC cC:Nat} {cl:List Int} {Q:Option Addr} {L cq mb bb na:Nat}
theorem QR.le (h:QR V qb g o N ls s t CA NC cC cl Q L cq mb bb na)(hl:Le V W):QR W qb g o N ls s t CA NC cC cl Q L cq mb bb na :=
 ⟨h.gr.le hl,h.ov.le hl,h.part.le hl,h.costs.le hl,hl _ _ h.q0,hl _ _ h.q1,hl _ _ h.q2,hl _ _ h.q3,hl _ _ h.q4,hl _ _ h.q5,hl _ _ h.q6,hl _ _ h.q7⟩
theorem QR.below (h:QR V qb g o N ls s t CA NC cC cl Q L cq mb bb na)(hb:Below V.heap.size V W):QR W qb g o N ls s t CA NC cC cl Q L cq mb bb na:=h.le (Le.below hb)
end
set_option maxHeartbeats 2000000 in
theorem Qpr (w:World)(qb g o:Nat)(N:Qam) (ls:List (List Int)) (s t:Nat) (CA:Option Addr) (NC cC:Nat) (cl:List Int) (Q:Option Addr) (L cq mb bb na a:Nat) (x xs xt:Tri) (h:QR w qb g o N ls s t CA NC cC cl Q L cq mb bb na) (hok:Qap N) (hP:Qat N.vs.length ls) (hx:N.ar[a]?=some x) (hxs:N.ar[s]?=some xs) (hxt:N.ar[t]?=some xt) :
 Calls prog 105 #[.pointer (some ⟨qb,0,none⟩),.int .i64 a] w fun e w'=>e=.returned (.int .i64 ((Qhh ls (toV N a) [toV N s,frV N t]:Nat):Int))∧Below w.heap.size w w':=by
 have HLV:=Zh (show lvI N.vs.length ls x.2.1 xs.2.1 xt.1=((Qhh ls (toV N a) [toV N s,frV N t]:Nat):Int) from by
  have o1:=hok.arcs x (Zm hx);have o2:=hok.arcs xs (Zm hxs);have o3:=hok.arcs xt (Zm hxt);unfold lvI;rw [if_pos ⟨⟨o1.g0,o1.g1⟩,⟨o2.g0,o2.g1⟩,⟨o3.f0,o3.f1⟩⟩,(Qby hx).1,(Qby hxs).1,(Qby hxt).2.1])
 have HTA:=Zh (fun V (hV:Below w.heap.size w V)=>Qfj g a N x V (h.gr.below hV) hx);have HTS:=Zh (fun V (hV:Below w.heap.size w V)=>Qfj g s N xs V (h.gr.below hV) hxs);have HFT:=Zh (fun V (hV:Below w.heap.size w V)=>Qgs g t N xt V (h.gr.below hV) hxt);have HLO:=Zh (fun V (hV:Below w.heap.size w V)=>Qvc Q L cq N.vs.length ls x.2.1 xs.2.1 xt.1 V (h.part.below hV) hP)
 have HSX:=Zh (show ∀ V,Below w.heap.size w V→V.cell? ⟨qb,0,none⟩=some (.pointer (some ⟨g,0,none⟩))∧V.cell? ⟨qb,3,none⟩=some (.int .i64 s)∧V.cell? ⟨qb,4,none⟩=some (.int .i64 t)∧V.cell? ⟨qb,5,none⟩=some (.slice Q L cq) from
  fun V hV=>⟨(h.below hV).q0,(h.below hV).q3,(h.below hV).q4,(h.below hV).q5⟩)
 clear h hok hP hx hxs hxt;go_enter func105,ntmps105
 go_wp2_with fail
 refine wp_region_held_drew (S:=fun V=>Below w.heap.size w V) (by kernel_rfl) (Zr _ _).drew (fun _=>?_);refine tzd 0 5 ?_;refine tzd 4 9 ?_;refine tz 8 13 ?_;refine tzd 10 15 ?_;refine tzd 14 19 ?_;refine tzd 19 24 ?_;refine tzd 23 28 ?_;refine Zk 9 (fun K hK=>?_);go_simp;with_reducible refine (HTA.out _ (Zr _ _).drew).mono ?_
 rintro r w' ⟨rfl,rfl⟩;go_simp;refine hK.out _ _ (Zr _ _).drew (fun _=>?_);clear hK K;refine Zk 18 (fun K hK=>?_);go_simp;with_reducible refine (HTS.out _ (Zr _ _).drew).mono ?_
 rintro r w' ⟨rfl,rfl⟩;go_simp;refine hK.out _ _ (Zr _ _).drew (fun _=>?_);clear hK K;refine Zk 27 (fun K hK=>?_);go_simp;with_reducible refine (HFT.out _ (Zr _ _).drew).mono ?_
 rintro r w' ⟨rfl,rfl⟩;go_simp;refine hK.out _ _ (Zr _ _).drew (fun _=>?_);clear hK K;refine Zk 28 (fun K hK=>?_);go_simp;with_reducible refine (HLO.out _ (Zr _ _).drew).mono ?_
 rintro r w2 ⟨rfl,hb2⟩;rw [HLV.out];have hb2':Below w.heap.size w w2:=(Zr _ _).drew.trans hb2;go_simp;refine hK.out _ _ hb2' (fun _=>?_);clear hK K;refine tz 29 4 ?_;refine Zd ?_;clear hb2 HSX;go_wp2_with fail
 go_ret;exact ⟨rfl,hb2'⟩
set_option maxRecDepth 20000 in
set_option maxHeartbeats 1000000 in
theorem Qkn (w:World)(g o:Nat)(N:Qam) (ls:List (List Int)) (s t:Nat) (CA:Option Addr) (NC cC:Nat) (cl:List Int) (hg:Qfh w g N) (ho:Qgh w o N.ar ls) (hc:RdI w CA NC cl) (hok:Qap N) (hP:Qat N.vs.length ls) :
 Calls prog 46 #[.pointer (some ⟨g,0,none⟩),.pointer (some ⟨o,0,none⟩),.slice CA NC cC,.int .i64 s,.int .i64 t] w fun e w'=>∃ qb Q cq mb bb,e=.returned (.pointer (some ⟨qb,0,none⟩)) ∧
  QR (msk w' (fun b=>b<w'.heap.size∧b≠bb∧b≠mb)) qb g o N ls s t CA NC cC cl Q ls.length cq mb bb N.ar.length∧MpQ w' mb 0 (fun _ _=>none)∧Blk w' bb 3 (Qcf (List.replicate N.ar.length 0))∧(w.heap.size≤mb∧w.heap.size≤bb∧mb≠bb)∧Below w.heap.size w w':=by
 have HG:=Zh hg;have HO:=Zh ho;have HC:=Zh hc;obtain ⟨na,hna⟩:=Zx N.ar.length;have hla:na≤16384:=by rw [hna];exact hok.la
 have hmk:=Qdg na (by omega);have HGA:=Zh (fun V (hV:Below w.heap.size w V)=>(show Calls prog 99 #[.pointer (some ⟨g,0,none⟩)] V fun e w'=>e=.returned (.int .i64 na)∧V=w' by rw [hna];exact Qgk g N V (hg.below hV)));have HPT:=Zh (Qkr o N.ar ls w ho (by have:=hP.l6;omega) (fun l hl=>by have:=(hP.lvl l hl).len;have:=hok.lv;omega));obtain ⟨L,hL⟩:=Zx ls.length;rw [←hL] at HPT;rw [←hna,←hL];clear hg ho hc hok hP hna hL;go_enter func46,ntmps46
 go_wp2_with fail
 with_reducible refine HPT.out.mono ?_
 rintro r w1 ⟨Q,cq,rfl,hQ,hb1⟩;have HQ:=Zh hQ;have hfl:∀ V,(Instr.field 132 (.agg #[.slice Q L cq]) 0).run prog V=.ok (.slice Q L cq) V:=fun V=>by rfl
 have hmm:=@run_makeMap prog;clear hQ HPT;go_wp2_with fail
 (refine Qac ?_;intro w2 hw2);have hb2:Below w1.heap.size w1 w2:=by rw [hw2];exact Qah
 have HM2:=Zh (show MpQ w2 w1.heap.size 0 (fun _ _=>none) by rw [hw2];exact MpQ.new w1);clear hw2;have hb12:=Zb hb1 hb2;with_reducible refine (HGA.out w2 hb12).mono ?_
 rintro r w' ⟨rfl,rfl⟩;go_wp2_with fail
 obtain ⟨bb,hbb⟩:∃ b,b=w2.heap.size:=⟨_,rfl⟩;obtain ⟨mb,hmb⟩:∃ b,b=w1.heap.size:=⟨_,rfl⟩;rw [←hbb,←hmb];rw [←hmb] at HM2;have s12:mb<w2.heap.size:=HM2.out.lt
 have s1:w.heap.size≤mb:=by rw [hmb];exact hb1.size
 obtain ⟨w3,hw3⟩:∃ V,V=w2.alloc (.cells (Qbs (.int .i64 0) na) 3):=⟨_,rfl⟩;rw [←hw3];have hB3:Blk w3 bb 3 (Qcf (List.replicate na 0)):=by rw [hw3,←Qcd];exact Blk.new' _ _ _ hbb
 have hb3:Below w2.heap.size w2 w3:=by rw [hw3];exact (Zr _ _).alloc (Zn _) _
 have s3:w3.heap.size=bb+1:=by rw [hw3,World.size_alloc,hbb]
 clear hw3;obtain ⟨w4,hw4⟩:∃ V,V=w3.alloc (.cells #[.pointer (some ⟨g,0,none⟩),.pointer (some ⟨o,0,none⟩),.slice CA NC cC,.int .i64 s,.int .i64 t,.slice Q L cq,.map (some mb),.slice (some ⟨bb,0,none⟩) na na] 197):=⟨_,rfl⟩;rw [←hw4];have hB4:Blk w4 (bb+1) 197 #[.pointer (some ⟨g,0,none⟩),.pointer (some ⟨o,0,none⟩),.slice CA NC cC,.int .i64 s,.int .i64 t,.slice Q L cq,.map (some mb),.slice (some ⟨bb,0,none⟩) na na]:=by rw [hw4];exact Blk.new' _ _ _ s3.symm
 have hb4:Below w3.heap.size w3 w4:=by rw [hw4];exact (Zr _ _).alloc (Zn _) _
 have s4:w4.heap.size=bb+2:=by rw [hw4,World.size_alloc,s3]
 clear hw4;have hb24:=Zb hb3 hb4;have hb14:=Zb hb2 hb24;have hb04:=Zb hb1 hb14;have hle:Le w (msk w4 (fun b=>b<w4.heap.size∧b≠bb∧b≠mb)):=Le.mskBelow hb04 (fun b hb=>⟨by omega,by omega,by omega⟩);have hmk4:∀ i v,w4.cell? ⟨bb+1,i,none⟩=some v→(msk w4 (fun b=>b<w4.heap.size∧b≠bb∧b≠mb)).cell? ⟨bb+1,i,none⟩=some v:=fun i v h=>Qff h ⟨by omega,by omega,by omega⟩
 go_ret;refine ⟨bb+1,Q,cq,mb,bb,rfl,⟨HG.out.le hle,HO.out.le hle,(HQ.out.le (fun a v h=>?_)),HC.out.le hle,hmk4 _ _ (Zq hB4),hmk4 _ _ (Zq hB4),hmk4 _ _ (Zq hB4),hmk4 _ _ (Zq hB4),hmk4 _ _ (Zq hB4),hmk4 _ _ (Zq hB4),hmk4 _ _ (Zq hB4),hmk4 _ _ (Zq hB4)⟩,HM2.out.below hb24,hB3.below hb4 hB3.lt,⟨s1,by omega,by omega⟩,hb04⟩;obtain ⟨h1,h2⟩:=Qbb.1 h;exact Qbb.2 ⟨⟨by omega,by omega,by omega⟩,Zc hb14 (Zn _) h2⟩
structure NxtP (N:Qam) (ls:List (List Int)) (av:List Int) (a:Nat) (os cs:List Int):Prop where
 len:cs.length=os.length
 to_:∀ (k:Nat) (o v:Int),os[k]?=some o→cs[k]?=some v→∃ (b:Nat) (y:Tri),o=(b:Int)∧N.ar[b]?=some y∧0≤v∧v≤1152921504606846976∧(v≠1152921504606846976→y.2.2≠1152921504606846976→HSt N ls av a b (v+y.2.2))
 all:∀ (b:Nat) (d:Int),HSt N ls av a b d→∃ (k:Nat) (v:Int) (y:Tri),os[k]?=some (b:Int)∧cs[k]?=some v∧N.ar[b]?=some y∧v≠1152921504606846976∧y.2.2≠1152921504606846976∧d=v+y.2.2
section
variable {N:Qam} {ls:List (List Int)} {av:List Int} {s a:Nat}
theorem Qyn (hok:Qap N){x:Tri} (hx:N.ar[a]?=some x) (h0:Qhh ls (toV N a) av=0):NxtP N ls av a (idx (·.1) N.ar x.2.1) ((idx (·.1) N.ar x.2.1).map (fun b=>Qai N a b.toNat)):=by refine ⟨by simp,fun k o v ho hv=>?_,fun b d hd=>?_⟩;{obtain ⟨b,y,rfl,hy,hf⟩:=Qdz.1 (Zm ho);(rw [Yt,ho] at hv;have hv':Qai N a b=v:=by simpa using hv);subst hv';have hb:=Qcb hok a b;exact ⟨b,y,rfl,hy,by omega,by omega,fun h1 h2=>.inl ⟨h0,y,hy,h1,h2,rfl⟩⟩};{(rcases hd with ⟨_,hd⟩|⟨j,_,_,_,_,hj,_⟩);{obtain ⟨x',y,hx',hy,e,h1,h2,h3⟩:=hd.ends;rw [hx] at hx';cases hx';obtain ⟨k,hk⟩:=Yr (Qdz.2 ⟨b,y,rfl,hy,e.symm⟩:(b:Int)∈idx (·.1) N.ar x.2.1);exact ⟨k,Qai N a b,y,hk,by rw [Yt,hk];simp,hy,h1,h2,h3⟩};{omega}}
theorem Qyo (hok:Qap N){cl:List Int}(hA:Qct N ls cl){j i c:Nat}{l:List Int}{x:Qan}{y:Tri} (hj:Qhh ls (toV N a) av=j+1) (hl:ls[j]?=some l) (hy:N.ar[a]?=some y) (hg:Qaa l y.1≠Qaa l y.2.1)
 (hc:Qaa l y.2.1=(c:Int)) (hx:(Qaf N.ar l)[c]?=some x) (hi:x.1[i]?=some (a:Int)):NxtP N ls av a x.2 ((cl.drop (Qfi (Qae N.ar ls) (Qaf N.ar l) j c x i 0)).take x.2.length):=by have hat:∀ (k:Nat) (o:Int),x.2[k]?=some o→∃ (b:Nat) (z:Tri) (v:Int),o=(b:Int)∧N.ar[b]?=some z∧Qaa l z.1=(c:Int)∧Qaa l z.2.1≠(c:Int)∧((cl.drop (Qfi (Qae N.ar ls) (Qaf N.ar l) j c x i 0)).take x.2.length)[k]?=some v∧Qet N (Qbv l c) a b v:=by{intro k o ho;have hk:=(Zs ho).1;have hm:=Zm ho;obtain ⟨b,rfl⟩:=Qdc hx ho;obtain ⟨z,hz,h1,h2⟩:=(Qbr hx).1 hm;obtain ⟨v,hv,hv2⟩:=hA.at_ (show Qfs N ls (Qfi (Qae N.ar ls) (Qaf N.ar l) j c x i k) j l c x i k a b from ⟨hl,hx,hi,ho,rfl⟩);exact Kcj};have hlen:((cl.drop (Qfi (Qae N.ar ls) (Qaf N.ar l) j c x i 0)).take x.2.length).length=x.2.length:=by{exact Kbg};refine ⟨hlen,fun k o v ho hv=>?_,fun b d hd=>?_⟩;{obtain ⟨b,z,v',rfl,hz,h1,h2,h3,h4⟩:=hat k o ho;rw [hv] at h3;cases h3;have hb:=h4.bd hok;refine ⟨b,z,rfl,hz,by omega,by omega,fun g1 g2=>.inr ⟨j,l,y,z,v,hj,hl,hy,hz,hg,by rw [h1,hc],by rw [hc];exact h2,g2,by rw [hc];exact h4,g1,rfl⟩⟩};{(rcases hd with ⟨h0,_⟩|⟨j',l',y',z,v,hj',hl',hy',hz,_,h5,h6,h7,h8,h9,rfl⟩);{omega};{rw [hj] at hj';(obtain rfl:j=j':=by omega);rw [hl] at hl';cases hl';rw [hy] at hy';cases hy';(rw [hc] at h5 h6 h8;obtain ⟨k,hk⟩:=Yr ((Qbr hx).2 ⟨z,hz,h5,h6⟩);obtain ⟨b',z',v',e,hz',_,_,h3,h4⟩:=hat k _ hk;obtain rfl:b=b':=by omega);rw [hz] at hz';cases hz';obtain rfl:=Lst.uniq h8 h4;exact ⟨k,v,z,hk,h3,hz,h9,h7,rfl⟩}}
inductive Via (N:Qam) (ls:List (List Int)) (av:List Int) (s:Nat) (bf:List Int) (dn:Nat→Option Int):Nat→Int→List (Nat×Nat)→Prop
 | start:Via N ls av s bf dn s 0 []
 | step {p q:Nat} {c d:Int} {hs:List (Nat×Nat)}:Via N ls av s bf dn p c hs→dn p=some c→q≠s→bf[q]?=some (p:Int)→HSt N ls av p q d→Via N ls av s bf dn q (c+d) (hs ++[(p,q)])
inductive HopP (N:Qam) (ls:List (List Int)) (av:List Int) (s:Nat):Nat→Int→List (Nat×Nat)→Prop
 | start:HopP N ls av s s 0 []
 | step {p q:Nat} {c d:Int} {hs:List (Nat×Nat)}:HopP N ls av s p c hs→HSt N ls av p q d→HopP N ls av s q (c+d) (hs ++[(p,q)])
variable {bf:List Int} {dn dn':Nat→Option Int} {q:Nat} {c:Int} {hs:List (Nat×Nat)}
theorem Via.hopP (h:Via N ls av s bf dn q c hs):HopP N ls av s q c hs:=by
 induction h with
 | start=>exact .start
 | step _ _ _ _ h2 ih=>exact ih.step h2
theorem Via.set {r:Nat}{v:Int}(h:Via N ls av s bf dn q c hs)(hq:q≠r)(hr:dn r=none):Via N ls av s (bf.set r v) dn q c hs:=by
 induction h with
 | start=>exact .start
 | @step p q c d hs h1 h2 h3 h4 h5 ih =>
  have hp:p≠r:=fun e=>by subst e;rw [hr] at h2;cases h2
  exact .step (ih hp) h2 h3 (by rw [Yh (fun e=>hq e.symm)];exact h4) h5
theorem Via.more (h:Via N ls av s bf dn q c hs)(hd:∀ r e,dn r=some e→dn' r=some e):Via N ls av s bf dn' q c hs:=by
 induction h with
 | start=>exact .start
 | step _ h2 h3 h4 h5 ih=>exact .step ih (hd _ _ h2) h3 h4 h5
theorem Via.uniq {c':Int} {hs':List (Nat×Nat)} (h:Via N ls av s bf dn q c hs) (g:Via N ls av s bf dn q c' hs'):hs=hs':=by
 induction h generalizing c' hs' with
 | start =>
  cases g with
  | start=>rfl
  | step _ _ h _ _=>exact absurd rfl h
 | step h1 h2 h3 h4 h5 ih =>
  cases g with
  | start=>exact absurd rfl h3
  | step g1 g2 g3 g4 g5 =>rw [h4] at g4;have e:=Yv g4;obtain rfl:=Int.ofNat.inj e;rw [ih g1]
noncomputable def Qqg (N:Qam) (ls:List (List Int)) (av:List Int) (s:Nat) (bf:List Int) (dn:Nat→Option Int) (q:Nat):Nat:=by classical exact if h:∃ c hs,Via N ls av s bf dn q c hs then (Classical.choose (Classical.choose_spec h)).length else 0
theorem Qqh (h:Via N ls av s bf dn q c hs):Qqg N ls av s bf dn q=hs.length:=by unfold Qqg;have he:∃ c hs,Via N ls av s bf dn q c hs:=⟨c,hs,h⟩;rw [dif_pos he];exact congrArg List.length ((Classical.choose_spec (Classical.choose_spec he)).uniq h)
structure Qwg (N:Qam) (ls:List (List Int)) (av:List Int) (s:Nat) (bf:List Int) (dn hp:Nat→Option Int) (k:Nat):Prop where
 done:∀ q c,dn q=some c→∃ hs,Via N ls av s bf dn q c hs∧hs.length+1≤k
 wait:∀ q c,hp q=some c→∃ hs,Via N ls av s bf dn q c hs∧hs.length≤k
 st:dn s≠none∨(∀ q,dn q=none)∧∀ q,q≠s→hp q=none
theorem Qwg.init {hp:Nat→Option Int}(h:∀ q,hp q=if q=s then some 0 else none):Qwg N ls av s bf (fun _=>none) hp 0:=by
 refine ⟨fun q c e=>(by cases e),fun q c e=>?_,.inr ⟨fun _=>rfl,fun q hq=>by rw [h q,if_neg hq]⟩⟩;rw [h q] at e;split at e
 {rename_i h1;subst h1;cases e;exact ⟨[],.start,Zn _⟩};{cases e}
theorem Qwg.take {hp:Nat→Option Int}{p k:Nat}(h:Qwg N ls av s bf dn hp k)(hp1:hp p=some c)(hd:dn p=none):Qwg N ls av s bf (fun q=>if q=p then some c else dn q) (fun q=>if q=p then none else hp q) (k+1):=by
 have hm:∀ r e,dn r=some e→(fun q=>if q=p then some c else dn q) r=some e:=fun r e hr=>by
  have:r≠p:=fun e'=>by subst e';rw [hd] at hr;cases hr
  simp [this,hr]
 refine ⟨fun q e hq=>?_,fun q e hq=>?_,?_⟩;{by_cases hqp:q=p;{subst hqp;simp at hq;subst hq;obtain ⟨hs,h1,h2⟩:=h.wait q c hp1;exact ⟨hs,h1.more hm,by omega⟩};{simp [hqp] at hq;obtain ⟨hs,h1,h2⟩:=h.done q e hq;exact ⟨hs,h1.more hm,by omega⟩}};{by_cases hqp:q=p;{simp [hqp] at hq};{simp [hqp] at hq;obtain ⟨hs,h1,h2⟩:=h.wait q e hq;exact ⟨hs,h1.more hm,by omega⟩}};{(left);exact Kbt}
theorem Qwg.put {hp hp':Nat→Option Int}{p b k:Nat}{d:Int}(h:Qwg N ls av s bf dn hp k)(hp1:dn p=some c)(hb:dn b=none)(hbl:b<bf.length)(hst:HSt N ls av p b d)(h1:∀ r,r≠b→hp' r=hp r) (h2:hp' b=some (c+d)):Qwg N ls av s (bf.set b (p:Int)) dn hp' k:=by
 have hs0:dn s≠none:=by
  rcases h.st with g|g
  {exact g};{rw [g.1 p] at hp1;cases hp1}
 refine ⟨fun q e hq=>?_,fun q e hq=>?_,?_⟩;{obtain ⟨hs,g,g2⟩:=h.done q e hq;exact ⟨hs,g.set (fun e'=>by subst e';rw [hb] at hq;cases hq) hb,g2⟩};{by_cases hqb:q=b;{subst hqb;rw [h2] at hq;cases hq;(obtain ⟨hs,g,g2⟩:=h.done p c hp1;have hqs:q≠s:=fun e=>hs0 (by rw [←e];exact hb));exact ⟨_,.step (g.set (fun e'=>by subst e';rw [hb] at hp1;cases hp1) hb) hp1 hqs (by rw [Yg hbl]) hst,by rw [Yp,List.length_singleton];exact g2⟩};{rw [h1 q hqb] at hq;obtain ⟨hs,g,g2⟩:=h.wait q e hq;exact ⟨hs,g.set hqb hb,g2⟩}};{exact .inl hs0}
end
set_option maxHeartbeats 400000 in
theorem Qer (A:Option Addr)(n c:Nat)(l:List Int)(v:Int)(w:World)(h:RdI w A n l)(hn:n≤1000000000) :
 Calls prog 30 #[.slice A n c,.int .i64 v] w fun e w'=>e=.returned (.int .i64 (plI l v))∧w=w':=by
 have HR:=Zh h;have HL:=Zh h.1;clear h;go_enter func30,ntmps30
 go_wp2_with fail
 go_loop [5] (fun q=>∃ k:Nat,k≤n∧q=.int .i64 k∧∀ j x,j<k→l[j]?=some x→x≠v) (fun q=>n-(intOf q).toNat)
 case atStart=>exact ⟨0,Nat.zero_le _,rfl,fun _ _ h=>absurd h (Nat.not_lt_zero _)⟩
 case round =>exact Kah
theorem Qcy (A B C:Option Addr)(n m k c d e:Nat)(a:Int)(w:World)(h0:0≤a)(h1:a<m) :
 Calls prog 10 #[.agg #[.slice A n c,.slice B m d,.slice C k e],.int .i64 a] w fun r w'=>r=.returned (.bool true)∧Below w.heap.size w w':=by
 go_enter func10,ntmps10
 exact Kbs
theorem idx_at {f:Tri→Int}{l:List Tri}{k:Nat}{y:Tri} (h:l[k]?=some y):∀ j,k<j→j≤l.length→(idx f (l.take j) (f y))[(idx f (l.take k) (f y)).length]?=some (k:Int):=by
 intro j
 induction j with
 | zero=>intro h1;omega
 | succ j ih =>intro h1 h2;obtain ⟨z,hz⟩:∃ z,l[j]?=some z:=⟨_,Zg (by omega)⟩;rw [Qew hz];by_cases e:k=j;{subst e;rw [h] at hz;cases hz;rw [Yb (Zn _),Yy];simp};{have:=ih (by omega) (by omega);rw [Yc (Zs this).1];exact this}
theorem Qrz {f:Tri→Int}{l:List Tri}{k:Nat}{y:Tri} (h:l[k]?=some y):plI (idx f l (f y)) (k:Int)=((idx f (l.take k) (f y)).length:Nat):=by have hk:=(Zs h).1;have h1:=idx_at (f:=f) h l.length hk (Zn _);rw [List.take_length] at h1;refine Qnt h1 (fun j x hj hx=>?_);have hs:=Qmn f (f y) l;rw [List.pairwise_iff_getElem] at hs;obtain ⟨p1,e1⟩:=Zs hx;obtain ⟨p2,e2⟩:=Zs h1;have:=hs j _ p1 p2 hj;omega
set_option maxHeartbeats 1000000 in
theorem Qjb (A:Option Addr)(n c:Nat)(t:Qft)(i o:Nat)(w:World)(h:RdI w A n t.costs)(ht:Qom t) (hi:(i:Int)<t.ins) (ho:(o:Int)<t.outs) :
 Calls prog 52 #[.agg #[.int .i64 t.ins,.int .i64 t.outs,.slice A n c],.int .i64 i,.int .i64 o] w fun e w'=>∃ x,t.costs[i*t.outs.toNat+o]?=some x∧e=.returned (.int .i64 x)∧Below w.heap.size w w':=by
 obtain ⟨p,q,cs⟩:=t;simp only at h hi ho ⊢;have i0:0≤p:=ht.i0;have i16:p≤16:=ht.i16;have o0:0≤q:=ht.o0;have o16:q≤16:=ht.o16;have hm:=Qpp i0 i16 o0 o16;have hl:(cs.length:Int)=p*q:=ht.len;have hk:(i:Int)*q+o<p*q:=by{exact Kcm};have hk0:0≤(i:Int)*q:=Int.mul_nonneg (by omega) o0;obtain ⟨k,hkk⟩:∃ k:Nat,(k:Int)=i*q+o:=⟨((i:Int)*q+o).toNat,by omega⟩;have hke:i*q.toNat+o=k:=by{exact Kcr};rw [hke];have hkl:k<n:=by rw [←h.1];omega
 obtain ⟨b,oo,x,hA,hx,hc⟩:=h.at_ hkl;subst hA;have e1:IntKind.i64.wrap ((i:Int)*q)=(i:Int)*q:=IntWalk.i64_in _ (by omega);have e2:IntKind.i64.wrap ((i:Int)*q+o)=(k:Int):=by rw [←hkk];exact IntWalk.i64_in _ (by omega)
 have i1:((k:Int))<(n:Int):=by omega
 have i2:¬(p≤(i:Int)):=by omega
 have i3:¬(q≤(o:Int)):=by omega
 have i4:¬((i:Int)<0):=by omega
 have i5:¬((o:Int)<0):=by omega
 have HX:=Zh hx;have hb:=Qak hc;simp only at hb;clear hx hk hm hl hkk hke h ht;go_enter func52,ntmps52
 go_wp2_with fail
 go_ret;exact ⟨x,HX.out,rfl,Qah⟩
structure BfW (w:World) (D:Nat) (cs:Array Value) (V:World) (d:List Int):Prop where
 bel:Below w.heap.size w V
 box:Blk V w.heap.size 50 cs
 row:Blk V D 2 (Qcf d)
 dB:w.heap.size<D
section
variable {w V V':World} {D:Nat} {cs:Array Value} {d:List Int}
theorem BfW.below (h:BfW w D cs V d)(hb:Below V.heap.size V V'):BfW w D cs V' d:=⟨Zb h.bel hb,h.box.below hb h.box.lt,h.row.below hb h.row.lt,h.dB⟩
theorem BfW.set (h:BfW w D cs V d)(b:Nat)(v:Int):BfW w D cs (V.setCell ⟨D,b,none⟩ (.int .i64 v)) (d.set b v) :=
 ⟨h.bel.setCell (by have:=h.dB;simp only;omega) _,h.box.far_ (by have:=h.dB;omega) _,h.row.setI rfl,h.dB⟩
end
theorem BfS.less {N:Qam}{mk:List Bool}{s t k:Nat}{d d':List Int}{best best':Int}(h:BfS N mk s t d best k)(hd:∀ q,dAt d' q≤dAt d q)(hb:best'≤best):BfS N mk s t d' best' k:=fun j q hj hq=>by obtain ⟨g1,g2⟩:=h j q hj hq;exact ⟨fun e he=>Int.le_trans (hd q) (g1 e he),fun e=>Int.le_trans hb (g2 e)⟩
set_option maxRecDepth 20000 in
set_option maxHeartbeats 8000000 in
theorem Qpw (A B C NX TX:Option Addr)(n m k c d e cx ct s t:Nat)(N:Qam)(MA:Option Addr)(mc:Nat)(mk:List Bool)(w:World)(h:Qbz w A B C n m k N)(hok:Qap N) (hnx:RdT w NX m (Qko N)) (htx:RdT w TX m (Qlh N)) (hmk:RdB w MA n mk) (hs:s<m) (ht:t<m) :
 Calls prog 113 #[.agg #[.slice A n c,.slice B m d,.slice C k e,.slice NX m cx,.slice TX m ct],.int .i64 s,.int .i64 t,.slice MA n mc] w fun r w'=>(∃ v,r=.returned (.int .i64 v)∧Qet N mk s t v)∧Below w.heap.size w w':=by
 have HH:=Zh h;have hlm:N.ar.length=m:=h.2.1.1;have hln:N.vs.length=n:=h.1.1;have hm:m≤16384:=by rw [←hlm];exact hok.la
 have HNX:=Zh hnx;have HTX:=Zh htx;have HMK:=Zh hmk;have HLM:=Zh hlm;have HLN:=Zh hln;have i1:0≤(s:Int):=by omega
 have i2:(s:Int)<m:=by omega
 have i3:0≤(t:Int):=by omega
 have i4:(t:Int)<m:=by omega
 have HTB:=Zh (fun a b:Nat=>Qcb hok a b);clear h hnx htx hmk hlm hln;go_enter func113,ntmps113
 go_wp2_with fail
 (refine Qac ?_;intro w1 hw1);have hb1:Below w.heap.size w w1:=by rw [hw1];exact Qah
 have hX1:Blk w1 w.heap.size 50 #[.slice A n c,.slice B m d,.slice C k e,.slice NX m cx,.slice TX m ct]:=by rw [hw1];refine Blk.new' _ _ _ ?_;rfl
 clear hw1;with_reducible refine (Qcy A B C n m k c d e (s:Int) w1 i1 i2).mono ?_
 rintro r w2 ⟨rfl,hb2⟩;have hX2:=hX1.below hb2 hX1.lt;have hb2':=Zb hb1 hb2;clear hb1 hb2 hX1;have x0:w2.cell? ⟨w.heap.size,0,none⟩=some (.slice A n c):=Zq hX2;have x1:w2.cell? ⟨w.heap.size,1,none⟩=some (.slice B m d):=Zq hX2;have x2:w2.cell? ⟨w.heap.size,2,none⟩=some (.slice C k e):=Zq hX2;go_wp2_with fail
 with_reducible refine (Qcy A B C n m k c d e (t:Int) w2 i3 i4).mono ?_
 rintro r w3 ⟨rfl,hb3⟩;have hX3:=hX2.below hb3 hX2.lt;have hb3':=Zb hb2' hb3;clear hb2' hb3 hX2 x0 x1 x2;have x1:w3.cell? ⟨w.heap.size,1,none⟩=some (.slice B m d):=Zq hX3;go_wp2_with fail
 with_reducible refine (never_ok m w3 (by omega)).mono ?_
 rintro r w4 ⟨rfl,hD4,hb4⟩;obtain ⟨D,hDe⟩:=Zx w3.heap.size;rw [←hDe] at hD4 ⊢;have HW4:=Zh (show BfW w D #[.slice A n c,.slice B m d,.slice C k e,.slice NX m cx,.slice TX m ct] w4 (List.replicate m 1152921504606846976) from ⟨Zb hb3' hb4,hX3.below hb4 hX3.lt,hD4,by rw [hDe];exact hX3.lt⟩);have HI0:=Zh (BfI.start N mk s t);rw [HLM.out] at HI0;clear hDe hD4 hb4 hb3' hX3 x1
 -- the rows of the start
 have HRW:=Zh (show ∀ a,a<m→∃ nb no na nc tb to_ ta tc,NX=some ⟨nb,no,none⟩∧TX=some ⟨tb,to_,none⟩∧∀ V,Below w.heap.size w V→V.cell? ⟨nb,no+a,none⟩=some (.slice na (Qes N a).length nc)∧V.cell? ⟨tb,to_+a,none⟩=some (.slice ta (Qes N a).length tc)∧RdI V na (Qes N a).length (Qes N a)∧RdI V ta (Qes N a).length (Qql N a) from fun a ha=>by
  obtain ⟨nb,no,na,n1,nc,l1,e1,g1,g2,g3,_,_⟩:=HNX.out.at_ ha;obtain ⟨tb,to_,ta,n2,tc,l2,e2,f1,f2,f3,_,_⟩:=HTX.out.at_ ha;rw [Qve (by rw [HLM.out];exact ha)] at g1
  cases g1
  rw [Qvv (by rw [HLM.out];exact ha)] at f1
  cases f1
  have q1:n1=(Qes N a).length:=g3.1.symm;have q2:n2=(Qes N a).length:=by rw [←trn_len];exact f3.1.symm
  subst q1;rw [q2] at f2 f3;exact ⟨nb,no,na,nc,tb,to_,ta,tc,e1,e2,fun V hV=>⟨Zc hV (Zn _) g2,Zc hV (Zn _) f2,g3.below hV,f3.below hV⟩⟩)
 obtain ⟨nb,no,na,nc,tb,to_,ta,tc,rfl,rfl,hrow⟩:=HRW.out s hs;have HS:=Zh hrow;obtain ⟨ln,hlne⟩:=Zx ((Qes N s).length);rw [←hlne] at HS;have hln4:ln≤16384:=by rw [hlne];have:=Qyp N s;have:=HLM.out;omega
 have HLE:=Zh hlne;clear hrow hlne;go_wp2_with fail
 go_loopw [10,11] (fun ub uk V=>∃ (kk:Nat) (dl:List Int) (best:Int),kk≤ln∧uk=.int .i64 kk∧ub=.int .i64 best∧BfW w D #[.slice A n c,.slice B m d,.slice C k e,.slice (some ⟨nb,no,none⟩) m cx,.slice (some ⟨tb,to_,none⟩) m ct] V dl∧BfI N mk s t dl best∧BfS N mk s t dl best kk) (fun _ uk _=>ln-(intOf uk).toNat)
 case atStart=>exact ⟨0,_,_,Nat.zero_le _,rfl,rfl,HW4.out,HI0.out,fun j b hj=>absurd hj (Nat.not_lt_zero _)⟩
 case round =>
  obtain ⟨kk,dl,best,hkk,rfl,rfl,hW,hI,hS⟩:=hrel;have HW:=Zh hW;have HI:=Zh hI;have HSS:=Zh hS;obtain ⟨r1,r2,r3,r4⟩:=HS.out wr hW.bel;have x3:wr.cell? ⟨w.heap.size,3,none⟩=some (.slice (some ⟨nb,no,none⟩) m cx):=Zq hW.box;have x4:wr.cell? ⟨w.heap.size,4,none⟩=some (.slice (some ⟨tb,to_,none⟩) m ct):=Zq hW.box;have x1:wr.cell? ⟨w.heap.size,1,none⟩=some (.slice B m d):=Zq hW.box;have hXl:=hW.box.lt;by_cases hlt:kk<ln
  · obtain ⟨b,hb1,hb2,hb3,hb4⟩:=nxt_at (N:=N) (a:=s) (k:=kk) (by rw [←HLE.out];exact hlt);obtain ⟨ab,ao,z1,rfl,hz1,c1⟩:=r3.at_ hlt;rw [hb1] at hz1;cases hz1;obtain ⟨bb,bo,z2,rfl,hz2,c2⟩:=r4.at_ hlt;rw [hb2] at hz2;cases hz2;(obtain ⟨⟨yu,yv,z⟩,hy⟩:∃ y,N.ar[b]?=some y:=⟨_,Zg hb4⟩;have ho:=hok.arcs _ (Zm hy);have f0:=ho.f0;have f1:=ho.f1;have g0:=ho.g0;have g1:=ho.g1;have hzw:=Qdk ho.w;simp only at f0 f1 g0 g1 hzw;rw [HLN.out] at f1 g1;obtain ⟨u,rfl⟩:∃ u:Nat,yu=(u:Int):=⟨yu.toNat,by omega⟩;obtain ⟨v,rfl⟩:∃ v:Nat,yv=(v:Int):=⟨yv.toNat,by omega⟩;have hun:u<n:=by omega);(have hvn:v<n:=by omega);(have j1:(kk:Int)<ln:=by omega);(have j2:(b:Int)<m:=by have:=HLM.out;omega);have HB1:=Zh hb1;have HTR:=Zh hb2;have HB3:=Zh hb3;have HY:=Zh hy;have HZW:=Zh hzw;obtain ⟨yb,yo,rfl,y0,y1,y2⟩:=(HH.out.below hW.bel).2.1.2 b _ hy;simp only at y0 y1 y2;have hub:=(HTB.out s b).resolve_left hb3;have HUB:=Zh hub;clear hW hI hS hb1 hb2 hb3 hy r3 r4 ho f0 f1 g0 g1 hzw;have key:((((b:Int) == (t:Int))=true)∧(Qai N s b<best∧min best (Qai N s b)=Qai N s b)∧Hid (BfI N mk s t dl (Qai N s b))∧Hid (Qai N s b≤best∧(b=t→Qai N s b≤Qai N s b)))∨((((b:Int) == (t:Int))=true)∧(¬Qai N s b<best∧min best (Qai N s b)=best)∧Hid (BfI N mk s t dl best)∧Hid (best≤best∧(b=t→best≤Qai N s b)))∨((((b:Int) == (t:Int))=false)∧True∧Hid (BfI N mk s t dl best)∧Hid (best≤best∧(b=t→best≤Qai N s b))):=by{by_cases hbt:b=t;{(have e1:((b:Int) == (t:Int))=true:=by simp;omega);(by_cases hmn:Qai N s b<best);{exact .inl ⟨e1,⟨hmn,by omega⟩,Zh (by have:=HI.out.dir1 hok HB3.out hbt;unfold Qvd at this;rwa [if_pos hmn] at this),Zh ⟨by omega,fun _=>Int.le_refl _⟩⟩};{exact .inr (.inl ⟨e1,⟨hmn,by omega⟩,Zh HI.out,Zh ⟨Int.le_refl _,fun _=>by omega⟩⟩)}};{exact .inr (.inr ⟨by simp;omega,trivial,Zh HI.out,Zh ⟨Int.le_refl _,fun e=>absurd e hbt⟩⟩)}};obtain ⟨e1,⟨hmn,hmin⟩,HBI,HB2⟩|⟨e1,⟨hmn,hmin⟩,HBI,HB2⟩|⟨e1,hmn,HBI,HB2⟩:=key
    all_goals as_aux_lemma =>
     go_wp2_with fail
     (refine Qac ?_;intro w5 hw5)
     have hb5:Below wr.heap.size wr w5:=by rw [hw5];exact Qah
     have hA5:Blk w5 wr.heap.size 119 #[.int .i64 u,.int .i64 v,.int .i64 z]:=by rw [hw5];exact Blk.new _ _ _
     clear hw5;have HW5:=Zh (HW.out.below hb5);clear r1 r2 c1 c2 y0 y1 y2 x1 x3 x4 hb5;have a0:w5.cell? ⟨wr.heap.size,0,none⟩=some (.int .i64 u):=Zq hA5;have a1:w5.cell? ⟨wr.heap.size,1,none⟩=some (.int .i64 v):=Zq hA5;have a2:w5.cell? ⟨wr.heap.size,2,none⟩=some (.int .i64 z):=Zq hA5;with_reducible refine (Qey MA n mc u mk w5 (HMK.out.below HW5.out.bel) hun).mono ?_
     rintro r w' ⟨rfl,rfl⟩
     cases hmu:mk.getD u false with
     | false =>
      have HSN:=Zh (HSS.out.next HB1.out (fun q=>Int.le_refl _) HB2.out.1 (fun e he=>absurd ((Qlc HY.out).1 he).2.2.1.1 (by simp only [Yl];rw [hmu];decide)) HB2.out.2);clear hmu a0 a1 a2
      go_wp2_with fail
      go_roundw
      case rel=>exact ⟨kk+1,dl,_,by omega,by go_num,rfl,HW5.out,HBI.out,HSN.out⟩
      case measure=>simp [intOf];omega
     | true =>
      have HMU:=Zh hmu;clear hmu
      go_wp2_with fail
      with_reducible refine (Qey MA n mc v mk w5 (HMK.out.below HW5.out.bel) hvn).mono ?_
      rintro r w' ⟨rfl,rfl⟩
      cases hmv:mk.getD v false with
      | false =>
       have HSN:=Zh (HSS.out.next HB1.out (fun q=>Int.le_refl _) HB2.out.1 (fun e he=>absurd ((Qlc HY.out).1 he).2.2.1.2 (by simp only [Yl];rw [hmv];decide)) HB2.out.2);clear hmv a0 a1 a2
       go_wp2_with fail
       go_roundw
       case rel=>exact ⟨kk+1,dl,_,by omega,by go_num,rfl,HW5.out,HBI.out,HSN.out⟩
       case measure=>simp [intOf];omega
      | true =>
       have HWI:=Zh (show Wi mk ((u:Int),(v:Int),z) from ⟨by simp only [Yl];exact HMU.out,by simp only [Yl];exact hmv⟩)
       clear hmv
       by_cases hzi:z=1152921504606846976
       · have HSN:=Zh (HSS.out.next HB1.out (fun q=>Int.le_refl _) HB2.out.1 (fun e he=>absurd hzi ((Qlc HY.out).1 he).2.1) HB2.out.2)
         subst hzi;clear a0 a1
         go_wp2_with fail
         go_roundw
         case rel=>exact ⟨kk+1,dl,_,by omega,by go_num,rfl,HW5.out,HBI.out,HSN.out⟩
         case measure=>simp [intOf];omega
       · have e2:(z != 1152921504606846976)=true:=by simpa using hzi
         have HZI:=Zh hzi;clear hzi;obtain ⟨r1,r2,r3,r4⟩:=HS.out w5 HW5.out.bel;obtain ⟨bb',bo',eb,c2⟩:=r4.2 kk _ HTR.out
         cases eb
         obtain ⟨dx,hdx⟩:∃ dx,dl[b]?=some dx:=⟨_,Zg (by rw [HI.out.len,HLM.out];omega)⟩;have d0:=HW5.out.row.cellI hdx;have df:=HW5.out.row.frozen b;have x4:w5.cell? ⟨w.heap.size,4,none⟩=some (.slice (some ⟨tb,to_,none⟩) m ct):=Zq HW5.out.box;have hzb:=HZW.out.resolve_left HZI.out;have HAD:=Zh (fun V=>Qfn (Qai N s b) z V (by have:=HUB.out;omega) (by omega));have hd2:=HBI.out.dir2 hok HY.out HB3.out HZI.out HWI.out;rw [Qeo hdx] at hd2;have HD2:=Zh hd2;have HDX:=Zh hdx;clear r1 r3 r4 hdx hzb hd2 a0 a1
         go_wp2_with fail
         refine Qbj 19 (S:=fun V=>V=w5.drew) (by kernel_rfl) rfl (fun _=>?_);refine tkF 0 89 (h:=⟨_,tv,?_⟩);simp only [pE,List.set];refine tkF 1 90 (h:=⟨_,tv,?_⟩);simp only [pE,List.set];refine tkF 2 91 (h:=⟨_,tv,?_⟩);simp only [pE,List.set];refine tkF 3 92 (h:=⟨_,tv,?_⟩);simp only [pE,List.set];refine tkF 4 93 (h:=⟨_,tv,?_⟩);simp only [pE,List.set];refine tkK 5 94 (h:=⟨_,tv,?_⟩);simp only [pE,List.set];refine tkF 6 95 (h:=⟨_,tv,?_⟩);simp only [pE,List.set];refine tkK 7 96 (h:=⟨_,tv,?_⟩);simp only [pE,List.set];refine tkF 8 97 (h:=⟨_,tv,?_⟩);simp only [pE,List.set];refine tkF 9 98 (h:=⟨_,tv,?_⟩);simp only [pE,List.set];refine tkK 10 99 (h:=⟨_,tv,?_⟩);simp only [pE,List.set];refine tkF 11 100 (h:=⟨_,tv,?_⟩);simp only [pE,List.set];refine tkF 12 101 (h:=⟨_,tv,?_⟩);simp only [pE,List.set];refine tkK 13 102 (h:=⟨_,tv,?_⟩);simp only [pE,List.set];refine tkF 14 103 (h:=⟨_,tv,?_⟩);simp only [pE,List.set];refine tkK 15 104 (h:=⟨_,tv,?_⟩);simp only [pE,List.set];refine Qbn (i:=16) (by kernel_rfl) (by rfl) rfl (fun K hK=>?_);go_simp;with_reducible refine (HAD.out _).mono ?_
         rintro e w' ⟨rfl,rfl⟩;go_simp;refine hK.out _ _ rfl (fun _=>?_);clear hK K;refine tkF 17 106 (h:=⟨_,tv,?_⟩);simp only [pE,List.set];refine tkF 18 107 (h:=⟨_,tv,?_⟩);simp only [pE,List.set];refine Qbt (k:=19) (by kernel_rfl) rfl (fun K hK=>?_);go_simp;refine hK.out _ _ ?_;clear hK K;refine Qbp (by kernel_rfl) ?_ _
         first | rw [show (if Qcl (Qai N s b) z<dx then Qcl (Qai N s b) z else dx)=Qvd dx (Qcl (Qai N s b) z) from rfl] | rw [show min dx (Qcl (Qai N s b) z)=Qvd dx (Qcl (Qai N s b) z) from by unfold Qvd;split <;> omega]
         have hbl:b<dl.length:=(Zs HDX.out).1
         have hmi:Qvd dx (Qcl (Qai N s b) z)≤dx∧Qvd dx (Qcl (Qai N s b) z)≤Qcl (Qai N s b) z:=by unfold Qvd;split <;> omega
         have HW6:=Zh ((HW5.out.set b (Qvd dx (Qcl (Qai N s b) z))).below (Zr _ _).drew)
         have HSN:=Zh (HSS.out.next HB1.out (d':=dl.set b (Qvd dx (Qcl (Qai N s b) z))) (fun q=>by
          rw [Qqz hbl]
          split
          · rename_i e;rw [←e,Qeo HDX.out];exact hmi.1
          · exact Int.le_refl _) HB2.out.1 (fun e he=>by
          have:=((Qlc HY.out).1 he).2.2.2;simp only at this;have h2:=HD2.out.1;rw [Qqz hbl,if_pos rfl];omega) HB2.out.2)
         clear hbl hmi a2 r2 c2 d0 df x4
         go_wp2_with fail
         go_roundw
         case rel=>exact ⟨kk+1,_,_,by omega,by go_num,rfl,HW6.out,HD2.out.2,HSN.out⟩
         case measure=>simp [intOf];omega
  · (obtain rfl:kk=ln:=by omega);have HSF:=Zh (show BfS N mk s t dl best (Qes N s).length by rw [←HLE.out];exact hS);(have j1:¬((kk:Int)<kk):=by omega);clear hI hS r3 r4 HSS;(go_wp2_with fail);(go_loopw [10,14] (fun ub um V=>∃ (dl:List Int) (best:Int) (more:Bool),um=.bool more∧ub=.int .i64 best∧BfW w D #[.slice A n c,.slice B m d,.slice C k e,.slice (some ⟨nb,no,none⟩) m cx,.slice (some ⟨tb,to_,none⟩) m ct] V dl∧BfI N mk s t dl best∧BfS N mk s t dl best (Qes N s).length∧(more=false→BfR N mk t dl best m 0)) (fun _ um V=>2*Qvu (rowOf V D)+(match um with|.bool true=>1|_=>0)));case atStart=>exact ⟨dl,best,true,rfl,rfl,HW.out,HI.out,HSF.out,fun h=>by cases h⟩
    case round =>
     clear HW HI HSF;obtain ⟨dl,best,more,rfl,rfl,hW,hI,hS,hR⟩:=hrel;have HW:=Zh hW;have HI:=Zh hI;have HSS:=Zh hS
     cases more with
     | false =>have hfin:=hI.fin hok hS (by rw [HLM.out];exact hR rfl);clear hW hI hS hR;(go_wp2_with fail);go_ret;exact ⟨⟨best,rfl,hfin⟩,HW.out.bel⟩
     | true =>
      clear hW hI hS hR;(go_wp2_with fail);obtain ⟨wo,hwo⟩:=Zx wr;subst hwo;(go_loopw [10,14,15] (fun ub um ua V=>∃ (dl2:List Int) (best2:Int) (more:Bool) (a:Nat),a≤m∧um=.bool more∧ub=.int .i64 best2∧ua=.int .i64 a∧BfW w D #[.slice A n c,.slice B m d,.slice C k e,.slice (some ⟨nb,no,none⟩) m cx,.slice (some ⟨tb,to_,none⟩) m ct] V dl2∧BfI N mk s t dl2 best2∧BfS N mk s t dl2 best2 (Qes N s).length∧Qvu dl2≤Qvu dl∧(more=true→Qvu dl2<Qvu dl)∧(more=false→BfR N mk t dl2 best2 a 0)) (fun _ _ ua _=>m-(intOf ua).toNat));case atStart=>exact ⟨dl,best,false,0,Nat.zero_le _,rfl,rfl,rfl,HW.out,HI.out,HSS.out,Zn _,(fun h=>by cases h),fun _ p j b hp=>by omega⟩
      case round =>
       obtain ⟨dl2,best2,more,a,ha,rfl,rfl,rfl,hW2,hI2,hS2,hle2,hlt2,hR2⟩:=hrel;have HW2:=Zh hW2;have HI2:=Zh hI2;have HS2:=Zh hS2;have HR2:=Zh hR2;have HLT2:=Zh hlt2;(by_cases ham:a<m);rotate_left
       · (obtain rfl:a=m:=by omega);(have j2:¬((a:Int)<a):=by omega);have hm1:=Qpx HW.out.row;have hm2:=Qpx hW2.row;clear hW2 hI2 hS2 hR2 hlt2;(go_wp2_with fail);go_roundw;case rel=>exact ⟨dl2,best2,more,rfl,rfl,HW2.out,HI2.out,HS2.out,HR2.out⟩
         case measure =>
          rw [hm1,hm2]
          cases more with
          | false=>simp;omega
          | true=>have:=HLT2.out rfl;simp;omega
       · obtain ⟨nb2,no2,na2,nc2,tb2,to2,ta2,tc2,e1,e2,hrow⟩:=HRW.out a ham;cases e1;cases e2;(have HS3:=Zh hrow;obtain ⟨ln2,hlne⟩:=Zx ((Qes N a).length);rw [←hlne] at HS3;have hln5:ln2≤16384:=by rw [hlne];have:=Qyp N a;have:=HLM.out;omega);(have HLE2:=Zh hlne;have j1:(a:Int)<m:=by omega);(have j0:0≤(a:Int):=by omega);clear hrow hlne hW2 hI2 hS2 hR2 hlt2;(go_wp2_with fail);(go_loopw [10,14,16] (fun ub um uk V=>∃ (kk:Nat) (dl3:List Int) (best3:Int) (more3:Bool),kk≤ln2∧uk=.int .i64 kk∧um=.bool more3∧ub=.int .i64 best3∧BfW w D #[.slice A n c,.slice B m d,.slice C k e,.slice (some ⟨nb,no,none⟩) m cx,.slice (some ⟨tb,to_,none⟩) m ct] V dl3∧BfI N mk s t dl3 best3∧BfS N mk s t dl3 best3 (Qes N s).length∧Qvu dl3≤Qvu dl∧(more3=true→Qvu dl3<Qvu dl)∧(more3=false→BfR N mk t dl3 best3 a kk)) (fun _ _ uk _=>ln2-(intOf uk).toNat));case atStart=>exact ⟨0,dl2,best2,more,Nat.zero_le _,rfl,rfl,rfl,HW2.out,HI2.out,HS2.out,hle2,HLT2.out,HR2.out⟩
         case round =>
          obtain ⟨kk,dl3,best3,more3,hkk,rfl,rfl,rfl,hW3,hI3,hS3,hle3,hlt3,hR3⟩:=hrel;have HW3:=Zh hW3;have HI3:=Zh hI3;have HBS3:=Zh hS3;have HLE3:=Zh hle3;have HLT3:=Zh hlt3;have HR3:=Zh hR3;obtain ⟨r1,r2,r3,r4⟩:=HS3.out wr hW3.bel;have x3:wr.cell? ⟨w.heap.size,3,none⟩=some (.slice (some ⟨nb,no,none⟩) m cx):=Zq hW3.box;have x4:wr.cell? ⟨w.heap.size,4,none⟩=some (.slice (some ⟨tb,to_,none⟩) m ct):=Zq hW3.box;have hXl:=hW3.box.lt;obtain ⟨da,hda⟩:∃ da,dl3[a]?=some da:=⟨_,Zg (by rw [HI3.out.len,HLM.out];exact ham)⟩;have d0:=hW3.row.cellI hda;have HDA:=Zh hda;clear hW3 hI3 hS3 hle3 hlt3 hR3 hda HW2 HI2 HS2 HR2 HLT2 hle2;(by_cases hlt:kk<ln2);rotate_left;{(obtain rfl:kk=ln2:=by omega);(have j2:¬((kk:Int)<kk):=by omega);have HEX:=Zh (fun h=>(HR3.out h).up (.inl (by rw [←HLE2.out];exact Zn _)));clear r3 r4;exact Kbu};(have j2:(kk:Int)<ln2:=by omega);(by_cases hdl:da<1152921504606846976);rotate_left;{have HEX:=Zh (fun h=>(HR3.out h).up (.inr (by rw [Qeo HDA.out];exact hdl)));clear r3 r4;exact Kbu};obtain ⟨b,hb1,hb2,hb3,hb4⟩:=nxt_at (N:=N) (a:=a) (k:=kk) (by rw [←HLE2.out];exact hlt);obtain ⟨ab,ao,z1,rfl,hz1,c1⟩:=r3.at_ hlt;rw [hb1] at hz1;cases hz1;obtain ⟨bb,bo,z2,rfl,hz2,c2⟩:=r4.at_ hlt;rw [hb2] at hz2;cases hz2;(obtain ⟨⟨yu,yv,z⟩,hy⟩:∃ y,N.ar[b]?=some y:=⟨_,Zg hb4⟩;have ho:=hok.arcs _ (Zm hy);have f0:=ho.f0;have f1:=ho.f1;have g0:=ho.g0;have g1:=ho.g1;have hzw:=Qdk ho.w;simp only at f0 f1 g0 g1 hzw;rw [HLN.out] at f1 g1;obtain ⟨u,rfl⟩:∃ u:Nat,yu=(u:Int):=⟨yu.toNat,by omega⟩;obtain ⟨v,rfl⟩:∃ v:Nat,yv=(v:Int):=⟨yv.toNat,by omega⟩;have hun:u<n:=by omega);(have hvn:v<n:=by omega);(have j3:0≤(kk:Int):=by omega);(have j4:(b:Int)<m:=by have:=HLM.out;omega);(have j5:0≤(b:Int):=by omega);(have hz0:0≤z:=by omega);(have hz9:z≤1152921504606846976:=by omega);have hda0:0≤da:=by{rcases HI3.out.at_ a with h|⟨h,_,_⟩ <;> rw [Qeo HDA.out] at h <;> omega};(have hub:=(HTB.out a b).resolve_left hb3;have hub9:Qai N a b≤1152921504606846976:=by omega);have hcb:=Qgj hda0 hub.1;have HAD:=Zh (fun V=>Qfn da (Qai N a b) V ⟨hda0,by omega⟩ ⟨hub.1,hub9⟩);obtain ⟨cc,hcc⟩:=Zx (Qcl da (Qai N a b));rw [←hcc] at hcb;have HAZ:=Zh (fun V=>Qfn cc z V ⟨hcb.1,hcb.2.1⟩ ⟨hz0,hz9⟩);have HCC:=Zh hcc;have HCD:=Zh (show Qcl (dAt dl3 a) (Qai N a b)=cc by rw [Qeo HDA.out];exact hcc.symm);have HDI:=Zh (show dAt dl3 a<1152921504606846976 by rw [Qeo HDA.out];exact hdl);have HD0:=Zh (show 0≤dAt dl3 a by rw [Qeo HDA.out];exact hda0);obtain ⟨db,hdb⟩:∃ db,dl3[b]?=some db:=⟨_,Zg (by rw [HI3.out.len];exact hb4)⟩;have HDB:=Zh hdb;have HZ0:=Zh (show 0≤(((u:Int),(v:Int),z):Tri).2.2 from hz0);have HB1:=Zh hb1;have HB3:=Zh hb3;have HY:=Zh hy;clear hb1 hb2 hb3 hb4 hy r3 r4 ho f0 f1 g0 g1 hzw hub hub9 hcc hdb hcb;(go_wp2_with fail);(refine wp_region_held_drew (S:=fun V=>V=wr.drew) (by kernel_rfl) rfl (fun _=>?_);refine tzd 0 140 ?_;refine tzd 4 144 ?_;refine tzd 8 148 ?_;refine Zk 12 (fun K hK=>?_);go_simp;with_reducible refine (HAD.out _).mono ?_);(rintro r w' ⟨rfl,rfl⟩;rw [←HCC.out];go_simp;refine hK.out _ _ rfl (fun _=>?_);clear hK K;refine tz 13 18 ?_;refine Zd ?_;obtain ⟨w4,hw4⟩:=Zx wr.drew;rw [←hw4];have hb4:Below wr.heap.size wr w4:=by rw [hw4];exact (Zr _ _).drew);have HW4:=Zh (HW3.out.below hb4);clear hw4 hb4 HAD r1 r2 c1 c2 x3 x4 d0 hXl;obtain ⟨yb,yo,rfl,y0,y1,y2⟩:=(HH.out.below HW4.out.bel).2.1.2 b _ HY.out;simp only at y0 y1 y2;have x1:w4.cell? ⟨w.heap.size,1,none⟩=some (.slice (some ⟨yb,yo,none⟩) m d):=Zq HW4.out.box;have hXl:=HW4.out.box.lt;have key:((((b:Int) == (t:Int))=true)∧cc<best3∧Hid (BfI N mk s t dl3 cc)∧Hid (BfS N mk s t dl3 cc (Qes N s).length)∧Hid (more3=false→BfR N mk t dl3 cc a kk)∧Hid (b=t→cc≤cc))∨((((b:Int) == (t:Int))=true)∧¬cc<best3∧Hid (BfI N mk s t dl3 best3)∧Hid (BfS N mk s t dl3 best3 (Qes N s).length)∧Hid (more3=false→BfR N mk t dl3 best3 a kk)∧Hid (b=t→best3≤cc))∨((((b:Int) == (t:Int))=false)∧True∧Hid (BfI N mk s t dl3 best3)∧Hid (BfS N mk s t dl3 best3 (Qes N s).length)∧Hid (more3=false→BfR N mk t dl3 best3 a kk)∧Hid (b=t→best3≤cc)):=by{by_cases hbt:b=t;{(have e3:((b:Int) == (t:Int))=true:=by simp;omega);(by_cases hmn:cc<best3);{refine .inl ⟨e3,hmn,Zh ?_,Zh (HBS3.out.less (fun q=>Int.le_refl _) (Int.le_of_lt hmn)),Zh (fun h=>(HR3.out h).less (Int.le_of_lt hmn)),Zh (fun _=>Int.le_refl _)⟩;have:=HI3.out.nb hok HDI.out HB3.out hbt (by rw [HCD.out];exact hmn);rwa [HCD.out] at this};{exact .inr (.inl ⟨e3,hmn,Zh HI3.out,Zh HBS3.out,Zh HR3.out,Zh (fun _=>by omega)⟩)}};{exact .inr (.inr ⟨by simp;omega,trivial,Zh HI3.out,Zh HBS3.out,Zh HR3.out,Zh (fun e=>absurd e hbt)⟩)}};obtain ⟨e3,hmn,HBI,HBS,HBR,HBB⟩|⟨e3,hmn,HBI,HBS,HBR,HBB⟩|⟨e3,hmn,HBI,HBS,HBR,HBB⟩:=key
          all_goals as_aux_lemma =>
           clear HI3 HBS3 HR3
           go_wp2_with fail
           (refine Qaj ?_;intro w5 hw5)
           have hb5:Below w4.heap.size w4 w5:=by rw [hw5];exact Qah
           have hA5:Blk w5 w4.heap.size 119 #[.int .i64 u,.int .i64 v,.int .i64 z]:=by rw [hw5];exact Blk.new _ _ _
           clear hw5;have HW5:=Zh (HW4.out.below hb5);clear y0 y1 y2 x1 hb5;have a0:w5.cell? ⟨w4.heap.size,0,none⟩=some (.int .i64 u):=Zq hA5;have a1:w5.cell? ⟨w4.heap.size,1,none⟩=some (.int .i64 v):=Zq hA5;have a2:w5.cell? ⟨w4.heap.size,2,none⟩=some (.int .i64 z):=Zq hA5;have d0:=HW5.out.row.cellI HDB.out;have df:=HW5.out.row.frozen b;obtain ⟨m1,hm1⟩:=Zx (mk.getD u false);obtain ⟨m2,hm2⟩:=Zx (mk.getD v false);have HM1:=Zh (show Calls prog 160 #[.slice MA n mc,.int .i64 u] w5.drew (fun e w'=>e=.returned (.bool m1)∧w5.drew=w') from hm1▸Qey MA n mc u mk w5.drew (HMK.out.below HW5.out.bel.drew) hun)
           have HM2:=Zh (show Calls prog 160 #[.slice MA n mc,.int .i64 v] w5.drew (fun e w'=>e=.returned (.bool m2)∧w5.drew=w') from hm2▸Qey MA n mc v mk w5.drew (HMK.out.below HW5.out.bel.drew) hvn)
           have HE1:=Zh hm1;have HE2:=Zh hm2;clear hm1 hm2 hA5;refine wp_region_held_drew (S:=fun V=>V=w5.drew) (by kernel_rfl) rfl (fun _=>?_);refine tzb 0 168 ?_;refine tz 2 170 ?_;refine Zk 3 (fun K hK=>?_);go_simp;with_reducible refine HM1.out.mono ?_
           rintro r w' ⟨rfl,rfl⟩;go_simp;refine hK.out _ _ rfl (fun _=>?_);clear hK K
           cases m1 with
           | false =>
            refine tz 4 172 ?_;refine tw 5 173 ?_;refine tw 6 174 ?_;refine tw 7 175 ?_;refine tw 8 176 ?_;refine tzb 9 177 ?_;refine tw 11 179 ?_;refine tw 12 180 ?_;refine tw 13 181 ?_;refine tw 14 182 ?_;refine tw 15 183 ?_;refine tw 16 184 ?_;refine tw 17 185 ?_;refine tw 18 186 ?_;refine tw 19 187 ?_;refine tz 20 188 ?_;refine Zd ?_;have HNO:=Zh (show Wi mk ((u:Int),(v:Int),z)→dAt dl3 b≤Qcl cc z from fun h=>by have:=h.1;simp only [Yl] at this;rw [←HE1.out] at this;cases this)
            have HRN:=Zh (fun h=>BfR.nx (y:=((u:Int),(v:Int),z)) hok (HBR.out h) HB1.out HD0.out HB3.out HY.out HZ0.out (by rw [HCD.out];exact HBB.out) (by rw [HCD.out];exact HNO.out));have HW6:=Zh (HW5.out.below (Zr _ _).drew);clear a0 a1 a2 d0 df HM1 HM2
            go_wp2_with fail
            go_roundw
            case rel=>exact ⟨kk+1,dl3,_,more3,by omega,by go_num,rfl,rfl,HW6.out,HBI.out,HBS.out,HLE3.out,HLT3.out,HRN.out⟩
            case measure=>simp [intOf];omega
           | true =>
            refine tzd 4 172 ?_;refine Zk 8 (fun K hK=>?_);go_simp;with_reducible refine HM2.out.mono ?_
            rintro r w' ⟨rfl,rfl⟩;go_simp;refine hK.out _ _ rfl (fun _=>?_);clear hK K
            cases m2 with
            | false =>
             refine tzb 9 177 ?_;refine tw 11 179 ?_;refine tw 12 180 ?_;refine tw 13 181 ?_;refine tw 14 182 ?_;refine tw 15 183 ?_;refine tw 16 184 ?_;refine tw 17 185 ?_;refine tw 18 186 ?_;refine tw 19 187 ?_;refine tz 20 188 ?_;refine Zd ?_;have HNO:=Zh (show Wi mk ((u:Int),(v:Int),z)→dAt dl3 b≤Qcl cc z from fun h=>by have:=h.2;simp only [Yl] at this;rw [←HE2.out] at this;cases this)
             have HRN:=Zh (fun h=>BfR.nx (y:=((u:Int),(v:Int),z)) hok (HBR.out h) HB1.out HD0.out HB3.out HY.out HZ0.out (by rw [HCD.out];exact HBB.out) (by rw [HCD.out];exact HNO.out));have HW6:=Zh (HW5.out.below (Zr _ _).drew);clear a0 a1 a2 d0 df HM1 HM2
             go_wp2_with fail
             go_roundw
             case rel=>exact ⟨kk+1,dl3,_,more3,by omega,by go_num,rfl,rfl,HW6.out,HBI.out,HBS.out,HLE3.out,HLT3.out,HRN.out⟩
             case measure=>simp [intOf];omega
            | true =>
             refine tzd 9 177 ?_;refine tz 13 181 ?_;refine tzd 15 183 ?_;refine Zk 14 (fun K hK=>?_);go_simp;with_reducible refine (HAZ.out _).mono ?_
             rintro r w' ⟨rfl,rfl⟩;go_simp;refine hK.out _ _ rfl (fun _=>?_);clear hK K;refine tzb 19 187 ?_;refine Zd ?_
             by_cases hls:Qcl cc z<db
             rotate_left
             · have HNO:=Zh (show Wi mk ((u:Int),(v:Int),z)→dAt dl3 b≤Qcl cc z from fun _=>by rw [Qeo HDB.out];omega)
               have HRN:=Zh (fun h=>BfR.nx (y:=((u:Int),(v:Int),z)) hok (HBR.out h) HB1.out HD0.out HB3.out HY.out HZ0.out (by rw [HCD.out];exact HBB.out) (by rw [HCD.out];exact HNO.out));have HW6:=Zh (HW5.out.below (Zr _ _).drew);clear a0 a1 a2 d0 df HM1 HM2
               go_wp2_with fail
               go_roundw
               case rel=>exact ⟨kk+1,dl3,_,more3,by omega,by go_num,rfl,rfl,HW6.out,HBI.out,HBS.out,HLE3.out,HLT3.out,HRN.out⟩
               case measure=>simp [intOf];omega
             · have HWI:=Zh (show Wi mk ((u:Int),(v:Int),z) from ⟨by simp only [Yl];exact HE1.out.symm,by simp only [Yl];exact HE2.out.symm⟩)
               have hnd:=HBI.out.nd (b:=b) (y:=((u:Int),(v:Int),z)) hok HDI.out HB3.out HY.out HZ0.out HWI.out;rw [HCD.out,Qeo HDB.out] at hnd;have HND:=Zh (hnd hls);have HSU:=Zh (Qtw dl3 b (Qcl cc z) db HDB.out HND.out.2 hls)
               have HDS:=Zh (show ∀ q,dAt (dl3.set b (Qcl cc z)) q≤dAt dl3 q from fun q=>by
                rw [Qqz (Zs HDB.out).1]
                split
                · rename_i e;rw [←e,Qeo HDB.out];omega
                · exact Int.le_refl _)
               have HSN:=Zh (HBS.out.less HDS.out (Int.le_refl _));have HW6:=Zh ((HW5.out.below (Zr _ _).drew).set b (Qcl cc z));clear hnd
               go_wp2_with fail
               with_reducible refine (HAZ.out _).mono ?_
               rintro r w' ⟨rfl,rfl⟩
               go_wp2_with fail
               go_roundw
               case rel=>exact ⟨kk+1,_,_,true,by omega,by go_num,rfl,rfl,HW6.out,HND.out.1,HSN.out,by have:=HSU.out;have:=HLE3.out;omega,fun _=>by have:=HSU.out;have:=HLE3.out;omega,fun h=>by cases h⟩
               case measure=>simp [intOf];omega
end Go.Proofs.YtdheeddnkdhfeaaGreatDoor
