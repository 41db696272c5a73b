/- Parts of the proof: Gv, Gr, Ga, GaW, Cl, ClI, Hw, Ks. -/
import Derived.Test.YtdheeddnkdhfeaaGreatDoorA3
import Derived.Lib.SliceRun
namespace Go.Proofs.YtdheeddnkdhfeaaGreatDoor
open Go.RowKit Go.Proofs.Tryz
def Le (w w':World):Prop:=∀ a v,w.cell? a=some v→w'.cell? a=some v
theorem Le.trans {a b c:World}(h:Le a b)(k:Le b c):Le a c:=fun x v hx=>k x v (h x v hx)
theorem Le.below {w w':World}(hb:Below w.heap.size w w'):Le w w':=fun _ _ h=>Zc hb (Zn _) h
section
variable {w w':World} {A:Option Addr} {n:Nat}
theorem RdK.le {k:IntKind}{l:List Int}(h:RdK k w A n l)(hl:Le w w'):RdK k w' A n l :=
 ⟨h.1,fun i x hx=>by obtain ⟨b,o,e,hc⟩:=h.2 i x hx;exact ⟨b,o,e,hl _ _ hc⟩⟩
theorem RdP.le {l:List (Int×Int)} (h:RdP w A n l) (hl:Le w w'):RdP w' A n l :=
 ⟨h.1,fun i x hx=>by obtain ⟨b,o,e,hc,hd⟩:=h.2 i x hx;exact ⟨b,o,e,hl _ _ hc,hl _ _ hd⟩⟩
theorem Rd3.le {l:List Tri}(h:Rd3 w A n l)(hl:Le w w'):Rd3 w' A n l :=
 ⟨h.1,fun i x hx=>by obtain ⟨b,o,e,h1,h2,h3⟩:=h.2 i x hx;exact ⟨b,o,e,hl _ _ h1,hl _ _ h2,hl _ _ h3⟩⟩
theorem RdT.le {ls:List (List Int)} (h:RdT w A n ls) (hl:Le w w'):RdT w' A n ls :=
 ⟨h.1,fun i l hx=>by obtain ⟨b,o,A',n',c',h1,h2,h3,h4⟩:=h.2 i l hx;exact ⟨b,o,A',n',c',h1,hl _ _ h2,h3.le hl,h4⟩⟩
theorem Qoy.le {b o:Nat}{t:Qfv}(h:Qoy w b o t)(hl:Le w w'):Qoy w' b o t:=by
 obtain ⟨h1,h2,A,n,c,h3,h4,h5⟩:=h;exact ⟨hl _ _ h1,hl _ _ h2,A,n,c,hl _ _ h3,h4.le hl,h5⟩
theorem RdY.le {l:List Qfv}(h:RdY w A n l)(hl:Le w w'):RdY w' A n l :=
 ⟨h.1,fun i t ht=>by obtain ⟨b,o,e,hc⟩:=h.2 i t ht;exact ⟨b,o,e,hc.le hl⟩⟩
theorem Qce.le {B C:Option Addr}{m k:Nat}{N:Qam}(h:Qce w A B C n m k N)(hl:Le w w'):Qce w' A B C n m k N:=⟨h.1.le hl,h.2.1.le hl,h.2.2.le hl⟩
end
noncomputable def msk (W:World) (G:Nat→Prop):World:=by classical exact { W with heap:=W.heap.mapIdx (fun i o=>if G i then o else .cells #[] 0) }
theorem Qwx {W:World}{G:Nat→Prop}{b:Nat}(h:G b):(msk W G).heap[b]?=W.heap[b]?:=by
 unfold msk;simp only [Array.getElem?_mapIdx]
 cases W.heap[b]? with
 | none=>rfl
 | some o=>simp [h]
theorem Qba {W:World}{G:Nat→Prop}{a:Addr}{v:Value}:(msk W G).cell? a=some v↔G a.block∧W.cell? a=some v:=by
 by_cases h:G a.block
 · unfold World.cell?
   rw [Qwx h];simp [h]
 · unfold World.cell? msk
   simp only [Array.getElem?_mapIdx]
   cases W.heap[a.block]? with
   | none=>simp [h]
   | some o=>simp [h]
theorem Qat (W:World)(G:Nat→Prop):Le (msk W G) W:=fun _ _ h=>(Qba.1 h).2
theorem Qbk {W:World}{G G':Nat→Prop}(h:∀ b,G b→G' b):Le (msk W G) (msk W G'):=fun _ _ hc=>Qba.2 ⟨h _ (Qba.1 hc).1,(Qba.1 hc).2⟩
def Qbc (G:Nat→Prop)(W W':World):Prop:=∀ b,G b→b<W.heap.size→W'.heap[b]?=W.heap[b]?
theorem Qbc.refl (G:Nat→Prop)(W:World):Qbc G W W:=fun _ _ _=>rfl
theorem Qbc.trans {G:Nat→Prop}{a b c:World}(h:Qbc G a b)(k:Qbc G b c)(hz:a.heap.size≤b.heap.size):Qbc G a c:=fun i hi hl=>(k i hi (by omega)).trans (h i hi hl)
theorem Qbc.below {G:Nat→Prop}{W W':World}(h:Below W.heap.size W W'):Qbc G W W':=fun b _ hl=>h.block b hl
theorem Qbc.mono {G G':Nat→Prop}{W W':World}(h:Qbc G W W')(hs:∀ b,G' b→G b):Qbc G' W W':=fun b hb hl=>h b (hs b hb) hl
theorem Qbc.grown {G:Nat→Prop}{W W':World}{r:Option Nat}(h:W.grownBy W' r)(hr:∀ b,G b→r≠some b):Qbc G W W':=fun b hb hl=>h.block b hl (fun e=>hr b hb e.symm)
theorem Qbc.set {G:Nat→Prop}(W:World)(g i:Nat)(v:Value)(h:¬G g):Qbc G W (W.setCell ⟨g,i,none⟩ v):=Qbc.grown (Qad W g i v) (fun b hb e=>h (by cases e;exact hb))
theorem Qbc.msk {G:Nat→Prop}{W W':World}(h:Qbc G W W'):Le (msk W G) (msk W' G):=fun a v hc=>by
 obtain ⟨h1,h2⟩:=Qba.1 hc;refine Qba.2 ⟨h1,?_⟩;rw [World.cell?_of_block (h _ h1 (Qaj h2))];exact h2
section
variable {W:World} {G:Nat→Prop} {A:Option Addr} {n:Nat}
theorem RdK.msk {k:IntKind}{l:List Int}(h:RdK k W A n l)(hg:∀ b,Qab A=some b→G b):RdK k (msk W G) A n l :=
 ⟨h.1,fun i x hx=>by obtain ⟨b,o,e,hc⟩:=h.2 i x hx;exact ⟨b,o,e,Qba.2 ⟨hg b (by rw [e];rfl),hc⟩⟩⟩
theorem RdP.msk {l:List (Int×Int)} (h:RdP W A n l) (hg:∀ b,Qab A=some b→G b):RdP (msk W G) A n l :=
 ⟨h.1,fun i x hx=>by obtain ⟨b,o,e,hc,hd⟩:=h.2 i x hx;exact ⟨b,o,e,Qba.2 ⟨hg b (by rw [e];rfl),hc⟩,Qba.2 ⟨hg b (by rw [e];rfl),hd⟩⟩⟩
theorem Rd3.msk {l:List Tri}(h:Rd3 W A n l)(hg:∀ b,Qab A=some b→G b):Rd3 (msk W G) A n l :=
 ⟨h.1,fun i x hx=>by
  obtain ⟨b,o,e,h1,h2,h3⟩:=h.2 i x hx;have hb:=hg b (by rw [e];rfl);exact ⟨b,o,e,Qba.2 ⟨hb,h1⟩,Qba.2 ⟨hb,h2⟩,Qba.2 ⟨hb,h3⟩⟩⟩
end
/-! Rows of Qcj, each of the call's own, as the cells of one block. -/
def IkO (W:World)(B g n:Nat) (ls:List (List Int)):Prop :=
 ls.length=n∧g<B∧∃ cs,Blk W g 61 cs∧cs.size=n∧(∀ (v:Nat) (l:List Int),ls[v]?=some l→∃ A c,cs[v]?=some (.slice A l.length c)∧Own W B 3 1 A l.length c (Qag l)) ∧
  ∀ (v v':Nat) A m c A' m' c',v≠v'→cs[v]?=some (.slice A m c)→cs[v']?=some (.slice A' m' c')→Dj A A'
theorem IkO.start {W:World}{B g n:Nat}(hg:g<B) (h:Blk W g 61 (Qbp (.slice none 0 0) n)):IkO W B g n (List.replicate n []):=by
 exact Kan
theorem IkO.grown {W W':World}{B g n:Nat}{r:Option Nat} {ls:List (List Int)} (h:IkO W B g n ls) (hg:W.grownBy W' r) (hr:∀ b,r=some b→b≠g∧b<B):IkO W' B g n ls:=by
 obtain ⟨h1,h2,cs,h3,h4,h5,h6⟩:=h;refine ⟨h1,h2,cs,h3.grown hg (fun e=>(hr g e).1 rfl),h4,fun v l hl=>?_,h6⟩;obtain ⟨A,c,k1,k2⟩:=h5 v l hl;refine ⟨A,c,k1,k2.far hg ?_⟩
 cases hA:Qab A with
 | none=>exact .inl rfl
 | some b =>
  refine .inr (fun e=>?_);have h8:=(k2.lt b hA).1;have h9:=(hr b e.symm).2;omega
theorem IkO.below {W W':World}{B g n:Nat} {ls:List (List Int)} (h:IkO W B g n ls) (hb:Below W.heap.size W W'):IkO W' B g n ls:=by
 exact Kaz
theorem IkO.row {W:World}{B g n u:Nat} {ls:List (List Int)} (h:IkO W B g n ls) (hu:u<n):∃ A c l,ls[u]?=some l∧W.cell? ⟨g,u,none⟩=some (.slice A l.length c)∧W.frozen? ⟨g,u,none⟩=false∧Own W B 3 1 A l.length c (Qag l):=by
 exact Kax
theorem IkO.lt {W:World}{B g n:Nat} {ls:List (List Int)} (h:IkO W B g n ls):g<W.heap.size:=by
 obtain ⟨_,_,cs,h3,_⟩:=h;exact h3.lt
theorem IkO.push {W w':World}{B g n u c c':Nat}{A A':Option Addr} {ls:List (List Int)} {l:List Int} {k:Int} (h:IkO W B g n ls) (hl:ls[u]?=some l) (hc:W.cell? ⟨g,u,none⟩=some (.slice A l.length c))
 (hown:Own w' B 3 1 A' (l.length+1) c' (Qag l ++Qag [k])) (hg:W.grownBy w' (Qab A)) (hat:Qab A'=Qab A∨Qab A'=some W.heap.size) :
 IkO (w'.setCell ⟨g,u,none⟩ (.slice A' (l.length+1) c')) B g n (ls.set u (l ++[k])):=by
 obtain ⟨h1,h2,cs,h3,h4,h5,h6⟩:=h;have hu:=(Zs hl).1;have hcs:cs[u]?=some (.slice A l.length c):=by rw [←h3.cell];exact hc
 exact Kae
theorem IkO.cellG {W w':World}{B g n u:Nat}{r:Option Nat} {ls:List (List Int)} (h:IkO W B g n ls) (hu:u<n) (hg:W.grownBy w' r) (hr:r≠some g):∃ v,w'.cell? ⟨g,u,none⟩=some v∧w'.frozen? ⟨g,u,none⟩=false:=by
 exact Kbx
theorem IkO.rdM {W:World}{G:Nat→Prop}{B g n:Nat} {ls:List (List Int)} (h:IkO W B g n ls) (hg:G g) (hB:∀ b,B≤b→b<W.heap.size→G b):RdT (msk W G) (some ⟨g,0,none⟩) n ls:=by
 obtain ⟨h1,h2,cs,h3,h4,h5,h6⟩:=h;refine ⟨h1,fun i l hl=>?_⟩;obtain ⟨A,c,k1,k2⟩:=h5 i l hl;exact ⟨g,0,A,l.length,c,rfl,Qba.2 ⟨hg,by rw [Yz,h3.cell];exact k1⟩,(k2.rds.rdI).msk (fun b hb=>hB b (k2.lt b hb).1 (k2.lt b hb).2),k2.cap,k2.capMax⟩
/-! The lists of a graph. -/
def idx (f:Tri→Int)(l:List Tri)(v:Int):List Int:=(l.zipIdx.filter (fun p=>f p.1 == v)).map (fun p=>(p.2:Int))
theorem idx_nil (f:Tri→Int)(v:Int):idx f [] v=[]:=rfl
theorem idx_snoc (f:Tri→Int)(l:List Tri)(a:Tri)(v:Int):idx f (l ++[a]) v=idx f l v ++(if f a == v then [(l.length:Int)] else []):=by
 unfold idx;rw [List.zipIdx_append,List.filter_append,List.map_append]
 congr 1
 cases h:f a == v <;> simp [h]
theorem Qej {f:Tri→Int}{l:List Tri}{a:Tri}{k:Nat} (h:l[k]?=some a) (v:Int):idx f (l.take (k+1)) v=idx f (l.take k) v ++(if f a == v then [(k:Int)] else []):=by
 have hlt:=(Zs h).1;rw [Yf hlt,(Zs h).2,idx_snoc,Yw,Nat.min_eq_left (by omega)]
theorem Qhh (p:Tri→Bool):∀ (l:List Tri) (i:Nat),(l.zipIdx i).countP (fun q=>p q.1)=l.countP p
 | [],_=>rfl
 | a::l,i=>by
  rw [List.zipIdx_cons,List.countP_cons,List.countP_cons,Qhh p l (i+1)]
theorem Qxz (f:Tri→Int)(l:List Tri)(v:Int):(idx f l v).length=l.countP (fun a=>f a == v):=by
 unfold idx;rw [List.length_map,←List.countP_eq_length_filter];exact Qhh (fun a=>f a == v) l 0
theorem Qfm {f:Tri→Int}{l:List Tri}{v x:Int}:x∈idx f l v↔∃ (i:Nat) (a:Tri),x=(i:Int)∧l[i]?=some a∧f a=v:=by
 unfold idx;simp only [List.mem_map,List.mem_filter,beq_iff_eq]
 exact Kbj
theorem Qvb (f:Tri→Int)(v:Int):∀ l:List Tri,(idx f l v).Pairwise (·<·):=by
 intro l;unfold idx;rw [List.pairwise_map];refine List.Pairwise.filter _ ?_;rw [List.pairwise_iff_getElem];intro i j hi hj hij;simp;exact hij
def Qop (f:Tri→Int)(l:List Tri)(n:Nat):List (List Int):=(List.range n).map (fun v:Nat=>idx f l (v:Int))
theorem Qjj (f:Tri→Int)(l:List Tri)(n:Nat):(Qop f l n).length=n:=by simp [Qop]
theorem Qgk {f:Tri→Int}{l:List Tri}{n v:Nat}(h:v<n):(Qop f l n)[v]?=some (idx f l (v:Int)):=by
 unfold Qop;rw [Yt,List.getElem?_range h]
 rfl
theorem Qsw (f:Tri→Int)(n:Nat):Qop f [] n=List.replicate n []:=by
 apply List.ext_getElem?
 intro i
 rcases Nat.lt_or_ge i n with h|h
 · rw [Qgk h,idx_nil];simp [h]
 · rw [Yd (by rw [Qjj];exact h),Yd (by simpa using h)]
theorem Qol {f:Tri→Int}{l:List Tri}{n v k:Nat}{a:Tri} (ha:l[k]?=some a) (hv:f a=(v:Int)) (h:v<n) :
 (Qop f (l.take k) n).set v (idx f (l.take k) (v:Int) ++[(k:Int)])=Qop f (l.take (k+1)) n:=by
 apply List.ext_getElem?
 intro i
 rcases Nat.lt_or_ge i n with hi|hi
 · rw [Qgk hi,Qej ha]
   by_cases e:v=i
   · subst e
     rw [Yg (by rw [Qjj];exact h)];simp [hv]
   · rw [Yh e,Qgk hi]
     have:(f a == (i:Int))=false:=by rw [hv];simp;omega
     simp [this]
 · rw [Yd (by rw [Yq,Qjj];exact hi),Yd (by rw [Qjj];exact hi)]
def Qgz (l:List Tri)(k:Nat)(a:Tri):Int×Int:=(((idx (·.2.1) (l.take k) a.2.1).length:Nat),((idx (·.1) (l.take k) a.1).length:Nat))
def plcs (l:List Tri):List (Int×Int):=l.zipIdx.map (fun p=>Qgz l p.2 p.1)
theorem Qsu (l:List Tri):(plcs l).length=l.length:=by simp [plcs]
theorem Qmw {l:List Tri}{k:Nat}{a:Tri} (h:l[k]?=some a):(plcs l)[k]?=some (Qgz l k a):=by
 unfold plcs;rw [Yt,List.getElem?_zipIdx,h];simp
theorem Qgs (f:Tri→Int)(l:List Tri)(k:Nat)(v:Int):(idx f (l.take k) v).length≤k:=by rw [Qxz];exact Qkr f l k v
def TabAt2 (w v:World)(b o:Nat)(t:Qfv):Prop:=w.cell? ⟨b,o,none⟩=some (.int .i64 t.ins)∧w.cell? ⟨b,o+1,none⟩=some (.int .i64 t.outs)∧∃ (A:Option Addr) (n c:Nat),w.cell? ⟨b,o+2,none⟩=some (.slice A n c)∧RdI v A n t.costs∧n≤c∧c≤9223372036854775807
def RdY2 (w v:World)(A:Option Addr)(n:Nat)(l:List Qfv):Prop:=l.length=n∧∀ i t,l[i]?=some t→∃ b o,A=some ⟨b,o,none⟩∧TabAt2 w v b (o+i*3) t
theorem RdY2.rdY {w v:World}{A:Option Addr}{n:Nat}{l:List Qfv}(h:RdY2 w v A n l)(hl:Le v w):RdY w A n l :=
 ⟨h.1,fun i t ht=>by
  obtain ⟨b,o,e,h1,h2,A',n',c',h3,h4,h5⟩:=h.2 i t ht;exact ⟨b,o,e,h1,h2,A',n',c',h3,h4.le hl,h5⟩⟩
theorem RdY2.le {w w' v v':World}{A:Option Addr}{n:Nat}{l:List Qfv}(h:RdY2 w v A n l)(hw:∀ b o x,Qab A=some b→w.cell? ⟨b,o,none⟩=some x→w'.cell? ⟨b,o,none⟩=some x)(hl:Le v v'):RdY2 w' v' A n l :=
 ⟨h.1,fun i t ht=>by
  obtain ⟨b,o,e,h1,h2,A',n',c',h3,h4,h5⟩:=h.2 i t ht;have hb:Qab A=some b:=by rw [e];rfl
  exact ⟨b,o,e,hw _ _ _ hb h1,hw _ _ _ hb h2,A',n',c',hw _ _ _ hb h3,h4.le hl,h5⟩⟩
def Warm (W:World)(A:Option Addr):Prop:=∀ b,Qab A=some b→b<W.heap.size∧∀ o,W.frozen? ⟨b,o,none⟩=false
theorem Warm.keep {W W':World}{A:Option Addr}(h:Warm W A)(hz:W.heap.size≤W'.heap.size) (hk:∀ b,Qab A=some b→W'.heap[b]?=W.heap[b]?):Warm W' A:=fun b hb =>
 ⟨Yu (h b hb).1 hz,fun o=>by rw [World.frozen?_of_block (hk b hb)];exact (h b hb).2 o⟩
theorem Own.warm {w:World}{B s n c:Nat}{e:TypeId}{A:Option Addr}{xs:List Value}(h:Own w B e s A n c xs):Warm w A:=fun b hb=>by
 refine ⟨(h.lt b hb).2,fun o=>?_⟩
 rcases h.2 with ⟨h',_⟩|⟨g,cap,cur,h1,h2,h3,_⟩
 · cases h';cases hb
 · cases h1
   cases hb
   exact Blk.frozen (t:=e) (cs:=cur) h3 o
structure Qpx (W:World) (G:Nat→Prop) (A B C:Option Addr) (n m k:Nat) (N:Qam):Prop where
 vs:Rd3 (msk W G) A n N.vs
 ar:Rd3 W B m N.ar
 ts:RdY2 W (msk W G) C k N.ts
 wa:Warm W B
 wt:Warm W C
 ga:∀ b,Qab B=some b→¬G b
 gt:∀ b,Qab C=some b→¬G b
 ac:∀ b,Qab B=some b→Qab C≠some b
theorem Qfh {W W':World}{b o:Nat}{x:Value} (hk:W'.heap[b]?=W.heap[b]?) (h:W.cell? ⟨b,o,none⟩=some x):W'.cell? ⟨b,o,none⟩=some x:=by
 rw [World.cell?_of_block (a:=⟨b,o,none⟩) hk];exact h
theorem Rd3.keep {W W':World}{A:Option Addr}{n:Nat}{l:List Tri}(h:Rd3 W A n l) (hk:∀ b,Qab A=some b→W'.heap[b]?=W.heap[b]?):Rd3 W' A n l :=
 ⟨h.1,fun i x hx=>by
  obtain ⟨b,o,e,h1,h2,h3⟩:=h.2 i x hx;have hb:=hk b (by rw [e];rfl);exact ⟨b,o,e,Qfh hb h1,Qfh hb h2,Qfh hb h3⟩⟩
section
variable {W W':World} {G:Nat→Prop} {A B C:Option Addr} {n m k:Nat} {N:Qam}
theorem Qpx.rd (h:Qpx W G A B C n m k N):Qce W A B C n m k N:=⟨h.vs.le (Qat W G),h.ar,h.ts.rdY (Qat W G)⟩
theorem Qpx.keep (h:Qpx W G A B C n m k N)(hz:W.heap.size≤W'.heap.size)(hG:Qbc G W W') (hB:∀ b,Qab B=some b→W'.heap[b]?=W.heap[b]?) (hC:∀ b,Qab C=some b→W'.heap[b]?=W.heap[b]?):Qpx W' G A B C n m k N where
 vs:=h.vs.le hG.msk
 ar:=h.ar.keep hB
 ts:=h.ts.le (fun b _ _ hb hc=>Qfh (hC b hb) hc) hG.msk
 wa:=h.wa.keep hz hB
 wt:=h.wt.keep hz hC
 ga:=h.ga
 gt:=h.gt
 ac:=h.ac
theorem Qpx.below (h:Qpx W G A B C n m k N)(hb:Below W.heap.size W W'):Qpx W' G A B C n m k N :=
 h.keep hb.size (Qbc.below hb) (fun b e=>hb.block b (h.wa b e).1) (fun b e=>hb.block b (h.wt b e).1)
theorem Qpx.mono {G':Nat→Prop}(h:Qpx W G A B C n m k N)(hs:∀ b,G b→G' b)(ha:∀ b,Qab B=some b→¬G' b)(ht:∀ b,Qab C=some b→¬G' b):Qpx W G' A B C n m k N where
 vs:=h.vs.le (Qbk hs)
 ar:=h.ar
 ts:=h.ts.le (fun _ _ _ _ hc=>hc) (Qbk hs)
 wa:=h.wa
 wt:=h.wt
 ga:=ha
 gt:=ht
 ac:=h.ac
end
structure GrR (W:World) (F G:Nat→Prop) (g:Nat) (A B C I O P:Option Addr) (n m k c d e ci co cp:Nat) (N:Qam):Prop where
 net:Qpx W G A B C n m k N
 blk:Blk W g 189 #[.slice A n c,.slice B m d,.slice C k e,.slice I n ci,.slice O n co,.slice P m cp]
 gg:G g
 ins:RdT (msk W G) I n (Qop (·.2.1) N.ar n)
 outs:RdT (msk W G) O n (Qop (·.1) N.ar n)
 plc:RdP (msk W G) P m (plcs N.ar)
 sub:∀ b,(G b∨Qab B=some b∨Qab C=some b)→F b
 lt:∀ b,F b→b<W.heap.size
 ok:Qap N
 c0:n≤c∧c≤9223372036854775807
 c1:m≤d∧d≤9223372036854775807
 c2:k≤e∧e≤9223372036854775807
def GrO (W:World)(F:Nat→Prop)(g:Nat)(N:Qam):Prop:=∃ (G:Nat→Prop) (A B C I O P:Option Addr) (n m k c d e ci co cp:Nat),GrR W F G g A B C I O P n m k c d e ci co cp N
structure GrV (W:World) (g:Nat) (A B C I O P:Option Addr) (n m k c d e ci co cp:Nat) (N:Qam):Prop where
 net:Qce W A B C n m k N
 n0:W.cell? ⟨g,0,none⟩=some (.slice A n c)
 n1:W.cell? ⟨g,1,none⟩=some (.slice B m d)
 n2:W.cell? ⟨g,2,none⟩=some (.slice C k e)
 n3:W.cell? ⟨g,3,none⟩=some (.slice I n ci)
 n4:W.cell? ⟨g,4,none⟩=some (.slice O n co)
 n5:W.cell? ⟨g,5,none⟩=some (.slice P m cp)
 ins:RdT W I n (Qop (·.2.1) N.ar n)
 outs:RdT W O n (Qop (·.1) N.ar n)
 plc:RdP W P m (plcs N.ar)
 ok:Qap N
 c0:n≤c∧c≤9223372036854775807
 c1:m≤d∧d≤9223372036854775807
 c2:k≤e∧e≤9223372036854775807
def Qes (W:World)(g:Nat)(N:Qam):Prop:=∃ (A B C I O P:Option Addr) (n m k c d e ci co cp:Nat),GrV W g A B C I O P n m k c d e ci co cp N
theorem Qes.le {W W':World}{g:Nat}{N:Qam}(h:Qes W g N)(hl:Le W W'):Qes W' g N:=by
 obtain ⟨A,B,C,I,O,P,n,m,k,c,d,e,ci,co,cp,h⟩:=h;exact ⟨A,B,C,I,O,P,n,m,k,c,d,e,ci,co,cp,h.net.le hl,hl _ _ h.n0,hl _ _ h.n1,hl _ _ h.n2,hl _ _ h.n3,hl _ _ h.n4,hl _ _ h.n5,h.ins.le hl,h.outs.le hl,h.plc.le hl,h.ok,h.c0,h.c1,h.c2⟩
theorem Qes.below {W W':World}{g:Nat}{N:Qam}(h:Qes W g N)(hb:Below W.heap.size W W'):Qes W' g N:=h.le (Le.below hb)
theorem Blk.six {w:World}{g:Nat}{t:TypeId}{a b c d e f:Value} (h:Blk w g t #[a,b,c,d,e,f]) :
 w.cell? ⟨g,0,none⟩=some a∧w.cell? ⟨g,1,none⟩=some b∧w.cell? ⟨g,2,none⟩=some c∧w.cell? ⟨g,3,none⟩=some d∧w.cell? ⟨g,4,none⟩=some e∧w.cell? ⟨g,5,none⟩=some f :=
 ⟨Zq h,Zq h,Zq h,Zq h,Zq h,Zq h⟩
theorem GrO.rd {W:World}{F:Nat→Prop}{g:Nat}{N:Qam}(h:GrO W F g N):Qes W g N:=by
 obtain ⟨G,A,B,C,I,O,P,n,m,k,c,d,e,ci,co,cp,h⟩:=h;obtain ⟨h0,h1,h2,h3,h4,h5⟩:=h.blk.six;exact ⟨A,B,C,I,O,P,n,m,k,c,d,e,ci,co,cp,h.net.rd,h0,h1,h2,h3,h4,h5,h.ins.le (Qat W G),h.outs.le (Qat W G),h.plc.le (Qat W G),h.ok,h.c0,h.c1,h.c2⟩
theorem GrO.keep {W W':World}{F:Nat→Prop}{g:Nat}{N:Qam}(h:GrO W F g N)(hz:W.heap.size≤W'.heap.size)(hF:Qbc F W W'):GrO W' F g N:=by
 obtain ⟨G,A,B,C,I,O,P,n,m,k,c,d,e,ci,co,cp,h⟩:=h;have hG:Qbc G W W':=hF.mono (fun b hb=>h.sub b (.inl hb));refine ⟨G,A,B,C,I,O,P,n,m,k,c,d,e,ci,co,cp,?_,(hF g (h.sub g (.inl h.gg)) h.blk.lt).trans h.blk,h.gg,h.ins.le hG.msk,h.outs.le hG.msk,h.plc.le hG.msk,h.sub,fun b hb=>Yu (h.lt b hb) hz,h.ok,h.c0,h.c1,h.c2⟩;exact h.net.keep hz hG (fun b hb=>hF b (h.sub b (.inr (.inl hb))) (h.net.wa b hb).1) (fun b hb=>hF b (h.sub b (.inr (.inr hb))) (h.net.wt b hb).1)
theorem GrO.below {W W':World}{F:Nat→Prop}{g:Nat}{N:Qam}(h:GrO W F g N)(hb:Below W.heap.size W W'):GrO W' F g N:=h.keep hb.size (Qbc.below hb)
attribute [local go_sem ↓] Go.wp_at_zero Go.wp_at_succ
theorem Qap.arLe {N:Qam}(h:Qap N){m:Nat}(e:N.ar.length=m):m≤16384:=by rw [←e];exact h.la
theorem Qlt (g:Nat)(N:Qam)(w:World)(h:Qes w g N):Calls prog 141 #[.pointer (some ⟨g,0,none⟩)] w fun e w'=>e=.returned (.int .i64 (N.vs.length:Int))∧w=w':=by
 obtain ⟨A,B,C,I,O,P,n,m,k,c,d,e,ci,co,cp,h⟩:=h;have h0:=h.n0;have HL:=Zh h.net.1.1;clear h
 go_enter func141,ntmps141
 go_wp2
 go_ret
 exact ⟨Qca (by rw [HL.out]),rfl⟩
theorem Qgb (g:Nat)(N:Qam)(w:World)(h:Qes w g N):Calls prog 99 #[.pointer (some ⟨g,0,none⟩)] w fun e w'=>e=.returned (.int .i64 (N.ar.length:Int))∧w=w':=by
 obtain ⟨A,B,C,I,O,P,n,m,k,c,d,e,ci,co,cp,h⟩:=h;have h1:=h.n1;have HL:=Zh h.net.2.1.1;clear h
 go_enter func99,ntmps99
 go_wp2
 go_ret
 exact ⟨Qca (by rw [HL.out]),rfl⟩
theorem Qjy (g:Nat)(N:Qam)(a:Int)(w:World)(h:Qes w g N)(h0:0≤a)(h1:a<N.ar.length):Calls prog 93 #[.pointer (some ⟨g,0,none⟩),.int .i64 a] w fun e w'=>e=.returned (.bool true)∧w=w':=by
 obtain ⟨A,B,C,I,O,P,n,m,k,c,d,e,ci,co,cp,h⟩:=h;have hn1:=h.n1;have hl:=h.net.2.1.1;rw [hl] at h1;clear hl h
 exact Kbp
theorem Qym (g:Nat)(N:Qam)(a:Int)(w:World)(h:Qes w g N) (h1:¬(0≤a∧a<N.ar.length)):Calls prog 93 #[.pointer (some ⟨g,0,none⟩),.int .i64 a] w fun e w'=>e=.returned (.bool false)∧w=w':=by
 obtain ⟨A,B,C,I,O,P,n,m,k,c,d,e,ci,co,cp,h⟩:=h;have hn1:=h.n1;have hl:=h.net.2.1.1;rw [hl] at h1;clear hl h
 by_cases h0:0≤a
 · have h2:¬a<m:=by omega
   clear h1
   exact Kbp
 · clear h1
   exact Kbp
theorem Qgf (g a:Nat)(N:Qam)(x:Tri)(w:World)(h:Qes w g N) (hx:N.ar[a]?=some x):Calls prog 143 #[.pointer (some ⟨g,0,none⟩),.int .i64 a] w fun e w'=>e=.returned (.int .i64 x.1)∧w=w':=by
 have HA:=Zh (show ∀ V,V=w→Calls prog 93 #[.pointer (some ⟨g,0,none⟩),.int .i64 a] V fun e w'=>e=.returned (.bool true)∧V=w' from fun V e=>e▸Qjy g N a w h (by omega) (by have:=(Zs hx).1;omega))
 obtain ⟨A,B,C,I,O,P,n,m,k,c,d,e,ci,co,cp,h⟩:=h;have hn1:=h.n1;have ha:a<m:=by have:=(Zs hx).1;rw [h.net.2.1.1] at this;exact this
 have hm:=h.ok.arLe h.net.2.1.1;obtain ⟨b,o,x',y',z',rfl,hx',cx,cy,cz⟩:=h.net.2.1.at_ ha;rw [hx] at hx'
 cases hx'
 have i1:(0:Int)≤(a:Int):=by omega
 have i2:(a:Int)<(m:Int):=by omega
 clear hx h
 go_enter func143,ntmps143
 exact Kbl
theorem Qeu (g a:Nat)(N:Qam)(x:Tri)(w:World)(h:Qes w g N) (hx:N.ar[a]?=some x):Calls prog 144 #[.pointer (some ⟨g,0,none⟩),.int .i64 a] w fun e w'=>e=.returned (.int .i64 x.2.1)∧w=w':=by
 have HA:=Zh (show ∀ V,V=w→Calls prog 93 #[.pointer (some ⟨g,0,none⟩),.int .i64 a] V fun e w'=>e=.returned (.bool true)∧V=w' from fun V e=>e▸Qjy g N a w h (by omega) (by have:=(Zs hx).1;omega))
 obtain ⟨A,B,C,I,O,P,n,m,k,c,d,e,ci,co,cp,h⟩:=h;have hn1:=h.n1;have ha:a<m:=by have:=(Zs hx).1;rw [h.net.2.1.1] at this;exact this
 have hm:=h.ok.arLe h.net.2.1.1;obtain ⟨b,o,x',y',z',rfl,hx',cx,cy,cz⟩:=h.net.2.1.at_ ha;rw [hx] at hx'
 cases hx'
 have i1:(0:Int)≤(a:Int):=by omega
 have i2:(a:Int)<(m:Int):=by omega
 clear hx h
 go_enter func144,ntmps144
 exact Kbl
theorem Qgj (g a:Nat)(N:Qam)(x:Tri)(w:World)(h:Qes w g N) (hx:N.ar[a]?=some x):Calls prog 83 #[.pointer (some ⟨g,0,none⟩),.int .i64 a] w fun e w'=>e=.returned (.int .i64 x.2.2)∧w=w':=by
 have HA:=Zh (show ∀ V,V=w→Calls prog 93 #[.pointer (some ⟨g,0,none⟩),.int .i64 a] V fun e w'=>e=.returned (.bool true)∧V=w' from fun V e=>e▸Qjy g N a w h (by omega) (by have:=(Zs hx).1;omega))
 obtain ⟨A,B,C,I,O,P,n,m,k,c,d,e,ci,co,cp,h⟩:=h;have hn1:=h.n1;have ha:a<m:=by have:=(Zs hx).1;rw [h.net.2.1.1] at this;exact this
 have hm:=h.ok.arLe h.net.2.1.1;obtain ⟨b,o,x',y',z',rfl,hx',cx,cy,cz⟩:=h.net.2.1.at_ ha;rw [hx] at hx'
 cases hx'
 have i1:(0:Int)≤(a:Int):=by omega
 have i2:(a:Int)<(m:Int):=by omega
 clear hx h
 go_enter func83,ntmps83
 exact Kbl
theorem infoClI:(Tryz.prog.info? 3).map (fun i=>(i.zero,i.size,i.bytes))=some (some (.int .i64 0),1,8):=by kernel_rfl
theorem infoClL:(Tryz.prog.info? 2).map (fun i=>(i.zero,i.size,i.bytes))=some (some (.int .i64 0),1,8):=by kernel_rfl
set_option maxHeartbeats 1000000 in
theorem Quh (A:Option Addr)(n c:Nat)(xs:List Value)(w:World)(h:Rds w 1 A n xs)(h1:∀ u∈xs,u.oneCell'=true)(hn:n≤1000000000) :
 Calls prog 147 #[.slice A n c] w fun e w'=>∃ A' c',e=.returned (.slice A' n c')∧Own w' w.heap.size 2 1 A' n c' xs∧Below w.heap.size w w':=by
 have q22:∀ (w:World) (a:Option Addr) (n c n' c':Nat),(binOp .eql 36 (.slice a n c) (.slice none n' c')).run prog w=.ok (.bool a.isNone) w:=fun w a n c n' c'=>Lib.run_eql_slice_nil w _ _ a n c n' c' underlying36
 cases A with
 | none =>
  have hl:xs=[]:=by
   cases hl:xs with
   | nil=>rfl
   | cons p t =>
    obtain ⟨b,o,e,_⟩:=h.2 0 p (by rw [hl];rfl)
    cases e
  subst hl;have h0:n=0:=by have:=h.1;simp at this;omega
  subst h0
  go_enter func147,ntmps147
  go_wp2
  go_ret
  exact ⟨none,0,rfl,Own.nil _ _ _ _,Qah⟩
 | some a =>
  have hb1:∀ o,Below w.heap.size w (w.alloc o):=fun o=>(Zr _ _).alloc (Zn _) o
  have hown0:Own (w.alloc (.cells #[] 2)) w.heap.size 2 1 (some ⟨w.heap.size,0,none⟩) 0 0 []:=Own.lit w #[] 0 (Zn _) (by omega) rfl
  go_enter func147,ntmps147
  go_wp2_with (at_builtin;with_reducible refine Qal rfl (.tmp 5) (.tmp 6) 36 rfl 2 _ 1 8 infoClL underlying36 rfl (by omega) (B:=w.heap.size) rfl rfl hown0 (h.below (hb1 _)) h1 (by omega) (by omega) (by simp) ?_)
  intro A' c' w' hown hg _;have hb2:Below w.heap.size w w':=Zo (hb1 _) hg hown0 (by simp)
  try simp only [Yz,List.nil_append] at hown
  have HO:=Zh hown;clear hown hg
  go_wp2
  go_ret
  exact ⟨_,_,rfl,HO.out,hb2⟩
theorem infoClV:(Tryz.prog.info? 243).map (fun i=>(i.zero,i.size,i.bytes))=some (some (.agg #[.int .i64 0,.int .i64 0,.int .i64 0]),3,24):=by kernel_rfl
set_option maxHeartbeats 1000000 in
theorem Qtu (A:Option Addr)(n c:Nat)(xs:List Value)(w:World)(h:Rds w 3 A n xs)(h1:∀ u∈xs,u.oneCell'=true)(hn:n≤1000000000) :
 Calls prog 176 #[.slice A n c] w fun e w'=>∃ A' c',e=.returned (.slice A' n c')∧Own w' w.heap.size 243 3 A' n c' xs∧Below w.heap.size w w':=by
 have q22:∀ (w:World) (a:Option Addr) (n c n' c':Nat),(binOp .eql 173 (.slice a n c) (.slice none n' c')).run prog w=.ok (.bool a.isNone) w:=fun w a n c n' c'=>Lib.run_eql_slice_nil w _ _ a n c n' c' underlying173
 cases A with
 | none =>
  have hl:xs=[]:=by
   cases hl:xs with
   | nil=>rfl
   | cons p t =>
    obtain ⟨b,o,e,_⟩:=h.2 0 p (by rw [hl];rfl)
    cases e
  subst hl;have h0:n=0:=by have:=h.1;simp at this;omega
  subst h0
  go_enter func176,ntmps176
  go_wp2
  go_ret
  exact ⟨none,0,rfl,Own.nil _ _ _ _,Qah⟩
 | some a =>
  have hb1:∀ o,Below w.heap.size w (w.alloc o):=fun o=>(Zr _ _).alloc (Zn _) o
  have hown0:Own (w.alloc (.cells #[] 243)) w.heap.size 243 3 (some ⟨w.heap.size,0,none⟩) 0 0 []:=Own.lit w #[] 0 (Zn _) (by omega) rfl
  go_enter func176,ntmps176
  go_wp2_with (at_builtin;with_reducible refine Qal rfl (.tmp 5) (.tmp 6) 173 rfl 243 _ 3 24 infoClV underlying173 rfl (by omega) (B:=w.heap.size) rfl rfl hown0 (h.below (hb1 _)) h1 (by omega) (by omega) (by simp) ?_)
  intro A' c' w' hown hg _;have hb2:Below w.heap.size w w':=Zo (hb1 _) hg hown0 (by simp)
  try simp only [Yz,List.nil_append] at hown
  have HO:=Zh hown;clear hown hg
  go_wp2
  go_ret
  exact ⟨_,_,rfl,HO.out,hb2⟩
theorem infoClA:(Tryz.prog.info? 186).map (fun i=>(i.zero,i.size,i.bytes))=some (some (.agg #[.int .i64 0,.int .i64 0,.int .i64 0]),3,24):=by kernel_rfl
set_option maxHeartbeats 1000000 in
theorem Qub (A:Option Addr)(n c:Nat)(xs:List Value)(w:World)(h:Rds w 3 A n xs)(h1:∀ u∈xs,u.oneCell'=true)(hn:n≤1000000000) :
 Calls prog 177 #[.slice A n c] w fun e w'=>∃ A' c',e=.returned (.slice A' n c')∧Own w' w.heap.size 186 3 A' n c' xs∧Below w.heap.size w w':=by
 have q22:∀ (w:World) (a:Option Addr) (n c n' c':Nat),(binOp .eql 174 (.slice a n c) (.slice none n' c')).run prog w=.ok (.bool a.isNone) w:=fun w a n c n' c'=>Lib.run_eql_slice_nil w _ _ a n c n' c' underlying174
 cases A with
 | none =>
  have hl:xs=[]:=by
   cases hl:xs with
   | nil=>rfl
   | cons p t =>
    obtain ⟨b,o,e,_⟩:=h.2 0 p (by rw [hl];rfl)
    cases e
  subst hl;have h0:n=0:=by have:=h.1;simp at this;omega
  subst h0
  go_enter func177,ntmps177
  go_wp2
  go_ret
  exact ⟨none,0,rfl,Own.nil _ _ _ _,Qah⟩
 | some a =>
  have hb1:∀ o,Below w.heap.size w (w.alloc o):=fun o=>(Zr _ _).alloc (Zn _) o
  have hown0:Own (w.alloc (.cells #[] 186)) w.heap.size 186 3 (some ⟨w.heap.size,0,none⟩) 0 0 []:=Own.lit w #[] 0 (Zn _) (by omega) rfl
  go_enter func177,ntmps177
  go_wp2_with (at_builtin;with_reducible refine Qal rfl (.tmp 5) (.tmp 6) 174 rfl 186 _ 3 24 infoClA underlying174 rfl (by omega) (B:=w.heap.size) rfl rfl hown0 (h.below (hb1 _)) h1 (by omega) (by omega) (by simp) ?_)
  intro A' c' w' hown hg _;have hb2:Below w.heap.size w w':=Zo (hb1 _) hg hown0 (by simp)
  try simp only [Yz,List.nil_append] at hown
  have HO:=Zh hown;clear hown hg
  go_wp2
  go_ret
  exact ⟨_,_,rfl,HO.out,hb2⟩
set_option maxHeartbeats 1000000 in
theorem Qih (A:Option Addr)(n c:Nat)(xs:List Value)(w:World)(h:Rds w 1 A n xs)(h1:∀ u∈xs,u.oneCell'=true)(hn:n≤1000000000) :
 Calls prog 76 #[.slice A n c] w fun e w'=>∃ A' c',e=.returned (.slice A' n c')∧Own w' w.heap.size 3 1 A' n c' xs∧Below w.heap.size w w':=by
 have q22:∀ (w:World) (a:Option Addr) (n c n' c':Nat),(binOp .eql 61 (.slice a n c) (.slice none n' c')).run prog w=.ok (.bool a.isNone) w:=fun w a n c n' c'=>Lib.run_eql_slice_nil w _ _ a n c n' c' underlying61
 cases A with
 | none =>
  have hl:xs=[]:=by
   cases hl:xs with
   | nil=>rfl
   | cons p t =>
    obtain ⟨b,o,e,_⟩:=h.2 0 p (by rw [hl];rfl)
    cases e
  subst hl;have h0:n=0:=by have:=h.1;simp at this;omega
  subst h0
  go_enter func76,ntmps76
  go_wp2
  go_ret
  exact ⟨none,0,rfl,Own.nil _ _ _ _,Qah⟩
 | some a =>
  have hb1:∀ o,Below w.heap.size w (w.alloc o):=fun o=>(Zr _ _).alloc (Zn _) o
  have hown0:Own (w.alloc (.cells #[] 3)) w.heap.size 3 1 (some ⟨w.heap.size,0,none⟩) 0 0 []:=Own.lit w #[] 0 (Zn _) (by omega) rfl
  go_enter func76,ntmps76
  go_wp2_with (at_builtin;with_reducible refine Qal rfl (.tmp 5) (.tmp 6) 61 rfl 3 _ 1 8 infoClI underlying61 rfl (by omega) (B:=w.heap.size) rfl rfl hown0 (h.below (hb1 _)) h1 (by omega) (by omega) (by simp) ?_)
  intro A' c' w' hown hg _;have hb2:Below w.heap.size w w':=Zo (hb1 _) hg hown0 (by simp)
  try simp only [Yz,List.nil_append] at hown
  have HO:=Zh hown;clear hown hg
  go_wp2
  go_ret
  exact ⟨_,_,rfl,HO.out,hb2⟩
structure Aft (G:Nat→Prop) (W W':World):Prop where
 kept:Qbc G W W'
 size:W.heap.size≤W'.heap.size
 bel:∀ B,(∀ b,b<B→G b)→Below B W W'
theorem Aft.refl (G:Nat→Prop)(W:World):Aft G W W:=⟨Qbc.refl _ _,Zn _,fun _ _=>Zr _ _⟩
theorem Aft.trans {G:Nat→Prop}{a b c:World}(h:Aft G a b)(k:Aft G b c):Aft G a c:=⟨h.kept.trans k.kept h.size,Yx h.size k.size,fun B hB=>(h.bel B hB).trans (k.bel B hB)⟩
theorem Aft.drew {G:Nat→Prop}{a b:World}(h:Aft G a b):Aft G a b.drew:=⟨h.kept,h.size,fun B hB=>(h.bel B hB).drew⟩
theorem Aft.set {G:Nat→Prop}{a b:World}{g i:Nat}(h:Aft G a b)(hg:¬G g)(v:Value):Aft G a (b.setCell ⟨g,i,none⟩ v) :=
 ⟨h.kept.trans (Qbc.set _ _ _ _ hg) h.size,by simpa [World.setCell] using h.size,fun B hB=>(h.bel B hB).setCell (Nat.le_of_not_lt fun hl=>hg (hB g hl)) v⟩
theorem Aft.below {G:Nat→Prop}{W W':World}(h:Below W.heap.size W W')(hG:∀ b,G b→b<W.heap.size):Aft G W W' :=
 ⟨Qbc.below h,h.size,fun B hB=>by
  refine h.mono ?_
  rcases Nat.lt_or_ge W.heap.size B with hl|hl
  · exact absurd (hG _ (hB _ hl)) (by omega)
  · exact hl⟩
def nis (l:List Nat):List Int:=l.map (fun (k:Nat)=>(k:Int))
theorem Qck (l:List Nat):(nis l).length=l.length:=by simp [nis]
theorem Qcd {l:List Nat}{i k:Nat} (h:l[i]?=some k):(nis l)[i]?=some (k:Int):=by simp [nis,h]
theorem Qxt (l:List Nat)(i k:Nat):(nis l).set i (k:Int)=nis (l.set i k):=by simp [nis,List.map_set]
theorem Qfj (l m:List Nat):nis (l ++m)=nis l ++nis m:=by simp [nis]
theorem Qij {l:List Int}{i:Nat}{x:Int} (h:l[i]?=some x):(Qag l)[i]?=some (.int .i64 x):=by simp [Qag,h]
theorem Qtv (l:List Int)(k:Nat)(x:Int):(Qag l).set k (.int .i64 x)=Qag (l.set k x):=by simp [Qag,List.map_set]
theorem Own.putAt {W:World}{B n c k s g o:Nat}{e:TypeId}{xs:List Value} (h:Own W B e s (some ⟨g,o,none⟩) n c xs) (v:Value):Own (W.setCell ⟨g,o+k,none⟩ v) B e s (some ⟨g,o,none⟩) n c (xs.set k v):=by
 refine ⟨by rw [Yq];exact h.1,?_⟩
 rcases h.2 with ⟨h',_⟩|⟨g',cap',cur,h1,h2,h3,h4,h5,h6,h7⟩
 · cases h'
 · cases h1
   refine Or.inr ⟨g,c,cur.setIfInBounds (0+k) v,rfl,h2,(show Blk W g e cur from h3).set_ (0+k) _,h4,h5,by simpa using h6,?_⟩
   rw [Array.toList_setIfInBounds,List.take_set,h7,Yz]
theorem Own.front_ {w:World}{B s n n' c:Nat}{e:TypeId}{A:Option Addr}{xs xs':List Value}(h:Own w B e s A n c xs)(hn:n'≤n) (hx:xs.take (n'*s)=xs'):Own w B e s A n' c xs':=by
 subst hx;refine ⟨by rw [Yw,h.1,Nat.min_eq_left (Nat.mul_le_mul_right s hn)],?_⟩
 rcases h.2 with ⟨h',h0⟩|⟨g',cap',cur,h1,h2,h3,h4,h5,h6,h7⟩
 · cases h'
   obtain rfl:n'=0:=by omega
   exact .inl ⟨rfl,rfl⟩
 · cases h1
   refine .inr ⟨g',c,cur,rfl,h2,h3,by omega,h5,h6,?_⟩;rw [←h7,List.take_take,Nat.min_eq_left (Nat.mul_le_mul_right s hn)]
structure Qbe (W:World) (G:Nat→Prop) (g:Nat) (A:Option Addr) (gc gs n m c:Nat) (R:List Nat) (C:List Int) (S:List Nat):Prop where
 blk:Blk W g 258 #[.slice A m c,.slice (some ⟨gc,0,none⟩) n n,.slice (some ⟨gs,0,none⟩) n n]
 row:Own W 0 3 1 A m c (Qag (nis R))
 cs:Blk W gc 2 (Qcj C)
 ss:Blk W gs 3 (Qcj (nis S))
 dA:∀ b,Qab A=some b→b≠g∧b≠gc∧b≠gs∧¬G b
 dg:g≠gc∧g≠gs∧gc≠gs
 dG:¬G g∧¬G gc∧¬G gs
 lt:∀ b,G b→b<W.heap.size
 lr:R.length=m
 lc:C.length=n
 ls:S.length=n
 n0:n≤16384
section
variable {W W':World} {G:Nat→Prop} {g gc gs n m c:Nat} {A:Option Addr} {R:List Nat} {C:List Int} {S:List Nat}
theorem Qbe.drew (h:Qbe W G g A gc gs n m c R C S):Qbe W.drew G g A gc gs n m c R C S:=⟨h.blk,h.row,h.cs,h.ss,h.dA,h.dg,h.dG,h.lt,h.lr,h.lc,h.ls,h.n0⟩
theorem Qbe.setR {gr i k:Nat} (h:Qbe W G g (some ⟨gr,0,none⟩) gc gs n m c R C S):Qbe (W.setCell ⟨gr,i,none⟩ (.int .i64 (k:Int))) G g (some ⟨gr,0,none⟩) gc gs n m c (R.set i k) C S:=by
 obtain ⟨d1,d2,d3,d4⟩:=h.dA gr rfl;have h1:=h.row.putAt (k:=i) (.int .i64 (k:Int));rw [Yz,Qtv,Qxt] at h1;exact ⟨h.blk.far_ (fun e=>d1 e.symm) _,h1,h.cs.far_ (fun e=>d2 e.symm) _,h.ss.far_ (fun e=>d3 e.symm) _,h.dA,h.dg,h.dG,fun b hb=>by simpa [World.setCell] using h.lt b hb,by rw [Yq];exact h.lr,h.lc,h.ls,h.n0⟩
theorem Qbe.setC {i:Nat}{x:Int}(h:Qbe W G g A gc gs n m c R C S):Qbe (W.setCell ⟨gc,i,none⟩ (.int .i64 x)) G g A gc gs n m c R (C.set i x) S :=
 ⟨h.blk.far_ h.dg.1 _,h.row.far (Qad _ _ _ _) (.inr fun e=>(h.dA gc e).2.1 rfl),h.cs.setI rfl,h.ss.far_ (fun e=>h.dg.2.2 e.symm) _,h.dA,h.dg,h.dG,fun b hb=>by simpa [World.setCell] using h.lt b hb,h.lr,by rw [Yq];exact h.lc,h.ls,h.n0⟩
theorem Qbe.setS {i k:Nat}(h:Qbe W G g A gc gs n m c R C S):Qbe (W.setCell ⟨gs,i,none⟩ (.int .i64 (k:Int))) G g A gc gs n m c R C (S.set i k) :=
 ⟨h.blk.far_ h.dg.2.1 _,h.row.far (Qad _ _ _ _) (.inr fun e=>(h.dA gs e).2.2.1 rfl),h.cs.far_ h.dg.2.2 _,h.ss.setI (Qxt _ _ _),h.dA,h.dg,h.dG,fun b hb=>by simpa [World.setCell] using h.lt b hb,h.lr,h.lc,by rw [Yq];exact h.ls,h.n0⟩
theorem Qbe.keep (h:Qbe W G g A gc gs n m c R C S)(hz:Below W.heap.size W W'):Qbe W' G g A gc gs n m c R C S :=
 ⟨h.blk.below hz h.blk.lt,h.row.below hz,h.cs.below hz h.cs.lt,h.ss.below hz h.ss.lt,h.dA,h.dg,h.dG,fun b hb=>Yu (h.lt b hb) hz.size,h.lr,h.lc,h.ls,h.n0⟩
theorem Qbe.more {G':Nat→Prop}(h:Qbe W G g A gc gs n m c R C S)(hb:Below W.heap.size W W') (hG:∀ b,G' b→b<W'.heap.size∧(G b∨W.heap.size≤b)):Qbe W' G' g A gc gs n m c R C S:=by
 have ho:∀ b,b<W.heap.size→¬G b→¬G' b:=fun b h1 h2 h3=>(hG b h3).2.elim h2 (fun h4=>by omega)
 have k:=h.keep hb;exact ⟨k.blk,k.row,k.cs,k.ss,fun b hb'=>⟨(h.dA b hb').1,(h.dA b hb').2.1,(h.dA b hb').2.2.1,ho b (h.row.lt b hb').2 (h.dA b hb').2.2.2⟩,h.dg,⟨ho _ h.blk.lt h.dG.1,ho _ h.cs.lt h.dG.2.1,ho _ h.ss.lt h.dG.2.2⟩,fun b hb'=>(hG b hb').1,h.lr,h.lc,h.ls,h.n0⟩
theorem Qbe.f0 (h:Qbe W G g A gc gs n m c R C S):W.cell? ⟨g,0,none⟩=some (.slice A m c):=Zq h.blk
theorem Qbe.f1 (h:Qbe W G g A gc gs n m c R C S):W.cell? ⟨g,1,none⟩=some (.slice (some ⟨gc,0,none⟩) n n):=Zq h.blk
theorem Qbe.f2 (h:Qbe W G g A gc gs n m c R C S):W.cell? ⟨g,2,none⟩=some (.slice (some ⟨gs,0,none⟩) n n):=Zq h.blk
theorem Qbe.rowAt {gr i k:Nat} (h:Qbe W G g (some ⟨gr,0,none⟩) gc gs n m c R C S) (hk:R[i]?=some k):W.cell? ⟨gr,i,none⟩=some (.int .i64 (k:Int)):=by
 obtain ⟨b,o,e,hc⟩:=h.row.rds.2 i _ (Qij (Qcd hk))
 cases e
 rwa [Yz] at hc
theorem Qbe.costAt {i:Nat}{x:Int}(h:Qbe W G g A gc gs n m c R C S) (hk:C[i]?=some x):W.cell? ⟨gc,i,none⟩=some (.int .i64 x):=h.cs.cellI hk
theorem Qbe.seatAt {i k:Nat}(h:Qbe W G g A gc gs n m c R C S) (hk:S[i]?=some k):W.cell? ⟨gs,i,none⟩=some (.int .i64 (k:Int)):=h.ss.cellI (Qcd hk)
theorem Qbe.rowBlk (h:Qbe W G g A gc gs n m c R C S)(hm:0<m):∃ gr,A=some ⟨gr,0,none⟩∧W.frozen? ⟨gr,0,none⟩=false:=by
 obtain ⟨gr,cur,e,_,hb,_⟩:=h.row.block hm;exact ⟨gr,e,hb.frozen 0⟩
theorem Qbe.fzR {gr i:Nat} (h:Qbe W G g (some ⟨gr,0,none⟩) gc gs n m c R C S):W.frozen? ⟨gr,i,none⟩=false:=(h.row.warm gr rfl).2 i
theorem Qbe.cap (h:Qbe W G g A gc gs n m c R C S):m≤c∧c≤9223372036854775807:=⟨h.row.cap,h.row.capMax⟩
end
section
variable {P:Program} {ops:Array Oper} {Q:Exit→Act→World→Prop} {md:Region.Mode} {S:World→Prop} {k:Nat}
def Qdh (P:Program)(md:Region.Mode)(ops:Array Oper)(Q:Exit→Act→World→Prop)(S:World→Prop)(k:Nat):Nat→Array Bool→Act→World→Prop
 | 0,listed,a,w=>Region.ready md ops listed=[]∧Q .normal a w
 | fuel+1,listed,a,w =>
  (Region.ready md ops listed=[]→Q .normal a w) ∧
  ∀ i∈Region.ready md ops listed,wpOp P ops Q i (fun a' w'=>if i=k then wpAny P md ops Q fuel (listed.setIfInBounds i true) a' w' else S w'∧Qdh P md ops Q S k fuel (listed.setIfInBounds i true) a' w') a w
theorem Qlx:∀ (fuel:Nat)(listed:Array Bool)(a:Act)(w:World),Qdh P md ops Q S k fuel listed a w→wpAny P md ops Q fuel listed a w
 | 0,_,_,_,h=>h
 | fuel+1,_,_,_,h=>⟨h.1,fun i hi=>wpOp_mono (fun a' w' h'=>by
  by_cases e:i=k
  · rw [if_pos e] at h';exact h'
  · rw [if_neg e] at h';exact Qlx fuel _ a' w' h'.2) (h.2 i hi)⟩
def Qfo (md:Region.Mode)(ops:Array Oper)(k i:Nat):Bool:=(ops[k]?).elim false fun o=>o.after.any fun e=>Region.binds md e && e.on == i
theorem Qjx {i:Nat}{listed:Array Bool}(h:Qfo md ops k i=true)(hi:i∈Region.ready md ops listed):k ∉ Region.ready md ops listed:=by
 intro hk;obtain ⟨_,o,ho,hall⟩:=mem_ready.1 hk;unfold Qfo at h;rw [ho] at h;simp only [Option.elim,Array.any_eq_true',Bool.and_eq_true,beq_iff_eq] at h;obtain ⟨e,he,hb,hon⟩:=h;have h1:=hall e he hb;have h0:=(mem_ready.1 hi).1;rw [hon] at h1;simp only [Array.getD_eq_getD_getElem?] at h0 h1
 cases hx:listed[i]? with
 | none=>rw [hx] at h0;cases h0
 | some b=>rw [hx] at h0 h1;simp at h0 h1;rw [h0] at h1;cases h1
theorem Qnp {i:Nat}{oi:Oper}{v:Value} (hi:ops[i]?=some oi) (hsel:∀ (j:Nat) (o:Oper) cs b,ops[j]?=some o→o.op≠.select cs b)
 (hQ:∀ c a w,Q (.panic c) (a.put oi.dst v) w→Q (.panic c) a w) (hwk:Qfo md ops k i=true) (hik:i≠k) :
 ∀ (fuel:Nat) (listed:Array Bool) (a:Act) (w:World),
  (∀ j oj,ops[j]?=some oj→j≠i→listed.getD j true=false→(∀ e∈oj.after,Region.binds md e=true→e.on≠i)→oi.apart ops oj=true) →
  i∈Region.ready md ops listed→YieldsIf P ops S oi v a→S w →
  Qdh P md ops Q S k fuel (listed.setIfInBounds i true) (a.put oi.dst v) w→Qdh P md ops Q S k (fuel+1) listed a w:=by
 intro fuel
 induction fuel with
 | zero =>
  intro listed a w _ hr hy hS H;refine ⟨fun h=>(by rw [h] at hr;cases hr),fun j hj=>?_⟩
  by_cases hji:j=i
  · subst hji
    refine hy.wpOp hi hS ?_;rw [if_neg hik];exact ⟨hS,H⟩
  · have:=ready_mono hj hji
    rw [H.1] at this
    cases this
 | succ fuel ih =>
  intro listed a w hfree hr hy hS H;refine ⟨fun h=>(by rw [h] at hr;cases hr),fun j hj=>?_⟩
  by_cases hji:j=i
  · subst hji
    refine hy.wpOp hi hS ?_;rw [if_neg hik];exact ⟨hS,H⟩
  · have hjk:j≠k:=fun e=>Qjx hwk hr (e▸hj)
    have h1:=H.2 j (ready_mono hj hji);obtain ⟨hjun,oj,hoj,hall⟩:=mem_ready.1 hj
    have hnot:∀ e∈oj.after,Region.binds md e=true→e.on≠i:=fun e he hb heq=>by
     exact Kbw
    have h2:=wpOp_putIf hoj (hfree j oj hoj hji hjun hnot) (fun cs b=>hsel i oi cs b hi) (fun cs b=>hsel j oj cs b hoj) hQ hy h1
    have hfree':∀ q oq,ops[q]?=some oq→q≠i→(listed.setIfInBounds j true).getD q true=false →
     (∀ e∈oq.after,Region.binds md e=true→e.on≠i)→oi.apart ops oq=true:=fun q oq hq hqi hun hno=>by
     refine hfree q oq hq hqi ?_ hno
     by_cases hjq:j=q
     · subst hjq;exact hjun
     · rw [getD_set_ne true hjq] at hun;exact hun
    refine wpOp_mono (fun a' w' h3=>?_) h2;rw [if_neg hjk] at h3 ⊢;refine ⟨h3.2.1,ih (listed.setIfInBounds j true) a' w' hfree' (ready_mono hr (Ne.symm hji)) h3.1 h3.2.1 ?_⟩;rw [Array.setIfInBounds_comm _ _ hji];exact h3.2.2
theorem takeK_ {i:Nat}{oi:Oper}{d:Option Tmp}{v:Value}{fuel:Nat}{listed:Array Bool}{a:Act}{w:World} (hi:ops[i]?=some oi) (hd:oi.dst=d)
 (hwk:Qfo md ops k i=true) (hik:(i == k)=false) (hs:Region.noSelect ops=true) (hf:Region.free md ops listed i=true) (hr:(Region.ready md ops listed).contains i=true)
 (hQ:∀ c a w,Q (.panic c) (a.put oi.dst v) w→Q (.panic c) a w) (hw:Region.wanted oi (yielded ops a.tmps)=true) (hy:∀ w,S w→(execOp a.eval oi).run P w=.ok (.value v) w) (hS:S w)
 (h:Qdh P md ops Q S k fuel (listed.setIfInBounds i true) (a.put d v) w):Qdh P md ops Q S k (fuel+1) listed a w:=by
 subst hd;exact Qnp hi (Region.noSelect_spec hs) hQ hwk (by simpa using hik) fuel listed a w (Region.free_spec hi hf) (by simpa using hr) (Or.inl ⟨hw,hy⟩) hS h
theorem Qrc {i:Nat}{oi:Oper}{v:Value} (hi:ops[i]?=some oi) (hsel:∀ (j:Nat) (o:Oper) cs b,ops[j]?=some o→o.op≠.select cs b)
 (hQ:∀ c a w,Q (.panic c) (a.put oi.dst v) w→Q (.panic c) a w) (hik:i≠k) :
 ∀ (fuel:Nat) (listed:Array Bool) (a:Act) (w:World),
  (∀ j oj,ops[j]?=some oj→j≠i→listed.getD j true=false→(∀ e∈oj.after,Region.binds md e=true→e.on≠i)→oi.apart ops oj=true) →
  i∈Region.ready md ops listed→YieldsIf P ops (fun _=>True) oi v a→S w →
  Qdh P md ops Q S k fuel (listed.setIfInBounds i true) (a.put oi.dst v) w→Qdh P md ops Q S k (fuel+1) listed a w:=by
 intro fuel
 induction fuel with
 | zero =>
  intro listed a w _ hr hy hS H;refine ⟨fun h=>(by rw [h] at hr;cases hr),fun j hj=>?_⟩
  by_cases hji:j=i
  · subst hji
    refine hy.wpOp hi trivial ?_;rw [if_neg hik];exact ⟨hS,H⟩
  · have:=ready_mono hj hji
    rw [H.1] at this
    cases this
 | succ fuel ih =>
  intro listed a w hfree hr hy hS H;refine ⟨fun h=>(by rw [h] at hr;cases hr),fun j hj=>?_⟩
  by_cases hji:j=i
  · subst hji
    refine hy.wpOp hi trivial ?_;rw [if_neg hik];exact ⟨hS,H⟩
  · have h1:=H.2 j (ready_mono hj hji)
    obtain ⟨hjun,oj,hoj,hall⟩:=mem_ready.1 hj
    have hnot:∀ e∈oj.after,Region.binds md e=true→e.on≠i:=fun e he hb heq=>by
     exact Kbw
    have h2:=wpOp_putIf hoj (hfree j oj hoj hji hjun hnot) (fun cs b=>hsel i oi cs b hi) (fun cs b=>hsel j oj cs b hoj) hQ hy h1
    have hfree':∀ q oq,ops[q]?=some oq→q≠i→(listed.setIfInBounds j true).getD q true=false →
     (∀ e∈oq.after,Region.binds md e=true→e.on≠i)→oi.apart ops oq=true:=fun q oq hq hqi hun hno=>by
     refine hfree q oq hq hqi ?_ hno
     by_cases hjq:j=q
     · subst hjq;exact hjun
     · rw [getD_set_ne true hjq] at hun;exact hun
    refine wpOp_mono (fun a' w' h3=>?_) h2
    by_cases hjk:j=k
    · rw [if_pos hjk] at h3 ⊢
      refine wpAny_first hi hsel hQ fuel (listed.setIfInBounds j true) a' w' hfree' (ready_mono hr (Ne.symm hji)) (h3.1.imp (fun ⟨ha,hb⟩=>⟨ha,fun w=>hb w trivial⟩) id) ?_;rw [Array.setIfInBounds_comm _ _ hji];exact h3.2
    · rw [if_neg hjk] at h3 ⊢
      refine ⟨h3.2.1,ih (listed.setIfInBounds j true) a' w' hfree' (ready_mono hr (Ne.symm hji)) h3.1 h3.2.1 ?_⟩;rw [Array.setIfInBounds_comm _ _ hji];exact h3.2.2
theorem takeF_ {i:Nat}{oi:Oper}{d:Option Tmp}{v:Value}{fuel:Nat}{listed:Array Bool}{a:Act}{w:World} (hi:ops[i]?=some oi) (hd:oi.dst=d)
 (hik:(i == k)=false) (hs:Region.noSelect ops=true) (hf:Region.free md ops listed i=true) (hr:(Region.ready md ops listed).contains i=true)
 (hQ:∀ c a w,Q (.panic c) (a.put oi.dst v) w→Q (.panic c) a w) (hw:Region.wanted oi (yielded ops a.tmps)=true) (hy:∀ w,True→(execOp a.eval oi).run P w=.ok (.value v) w) (hS:S w)
 (h:Qdh P md ops Q S k fuel (listed.setIfInBounds i true) (a.put d v) w):Qdh P md ops Q S k (fuel+1) listed a w:=by
 subst hd;exact Qrc hi (Region.noSelect_spec hs) hQ (by simpa using hik) fuel listed a w (Region.free_spec hi hf) (by simpa using hr) (Or.inl ⟨hw,hy⟩) hS h
theorem tkK (i d:Nat){oi:Oper}{fuel:Nat}{listed:Array Bool}{a:Act}{w:World} (hi:ops[i]?=some oi:=by rfl) (hd:oi.dst=some d:=by rfl) (hwk:Qfo md ops k i=true:=by kernel_rfl) (hik:(i == k)=false:=by rfl) (hs:Region.noSelect ops=true:=by kernel_rfl)
 (hf:Region.free md ops listed i=true:=by kernel_rfl) (hr:(Region.ready md ops listed).contains i=true:=by kernel_rfl) (hQ:∀ c a w v,Q (.panic c) (a.put oi.dst v) w→Q (.panic c) a w:=by exact fun _ _ _ _ h=>h) (hw:Region.wanted oi (yielded ops a.tmps)=true:=by rfl) (hS:S w:=by first|rfl|trivial|assumption)
 (h:∃ v,(∀ w,S w→(execOp a.eval oi).run P w=.ok (.value v) w)∧Qdh P md ops Q S k fuel (listed.setIfInBounds i true) (a.put (some d) v) w):Qdh P md ops Q S k (fuel+1) listed a w:=by
 obtain ⟨v,h1,h2⟩:=h;exact takeK_ (i:=i) (d:=some d) (v:=v) hi hd hwk hik hs hf hr (fun c a w=>hQ c a w v) hw h1 hS h2
theorem tkF (i d:Nat){oi:Oper}{fuel:Nat}{listed:Array Bool}{a:Act}{w:World} (hi:ops[i]?=some oi:=by rfl) (hd:oi.dst=some d:=by rfl) (hik:(i == k)=false:=by rfl) (hs:Region.noSelect ops=true:=by kernel_rfl)
 (hf:Region.free md ops listed i=true:=by kernel_rfl) (hr:(Region.ready md ops listed).contains i=true:=by kernel_rfl) (hQ:∀ c a w v,Q (.panic c) (a.put oi.dst v) w→Q (.panic c) a w:=by exact fun _ _ _ _ h=>h) (hw:Region.wanted oi (yielded ops a.tmps)=true:=by rfl) (hS:S w:=by first|rfl|trivial|assumption)
 (h:∃ v,(∀ w,True→(execOp a.eval oi).run P w=.ok (.value v) w)∧Qdh P md ops Q S k fuel (listed.setIfInBounds i true) (a.put (some d) v) w):Qdh P md ops Q S k (fuel+1) listed a w:=by
 obtain ⟨v,h1,h2⟩:=h;exact takeF_ (i:=i) (d:=some d) (v:=v) hi hd hik hs hf hr (fun c a w=>hQ c a w v) hw h1 hS h2
theorem Qby {o:Oper}{fuel:Nat}{listed:Array Bool}{a:Act}{w:World} (hr:Region.ready md ops listed=[k]) (ho:ops[k]?=some o)
 (h:∀ K':Act→World→Prop,Shut (∀ a w,wpAny P md ops Q fuel (listed.setIfInBounds k true) a w→K' a w)→if Region.wanted o (yielded ops a.tmps)=true then Oper.wp P o a w K' Q else K' (a.put o.dst undef) w) :
 Qdh P md ops Q S k (fuel+1) listed a w:=by
 refine ⟨fun h0=>(by rw [hr] at h0;cases h0),fun j hj=>?_⟩
 rw [hr] at hj;obtain rfl:j=k:=by simpa using hj
 refine wpOp_step ho (fun K' hK=>h K' (fun a w hW=>hK a w ?_));rw [if_pos rfl];exact hW
theorem Qbs {i:Nat}{o:Oper}{fuel:Nat}{listed:Array Bool}{a:Act}{w:World} (hr:Region.ready md ops listed=[i]) (hik:(i == k)=false) (ho:ops[i]?=some o)
 (h:∀ K':Act→World→Prop,Shut (∀ a w,S w→(S w→Qdh P md ops Q S k fuel (listed.setIfInBounds i true) a w)→K' a w)→if Region.wanted o (yielded ops a.tmps)=true then Oper.wp P o a w K' Q else K' (a.put o.dst undef) w) :
 Qdh P md ops Q S k (fuel+1) listed a w:=by
 refine ⟨fun h0=>(by rw [hr] at h0;cases h0),fun j hj=>?_⟩
 rw [hr] at hj;obtain rfl:j=i:=by simpa using hj
 refine wpOp_step ho (fun K' hK=>h K' (fun a w hS hW=>hK a w ?_));rw [if_neg (by simpa using hik)];exact ⟨hS,hW hS⟩
theorem Qbt {listed:Array Bool}{a:Act}{w:World} (hr:Region.ready md ops listed=[]) (h:Q .normal a w):∀ fuel,wpAny P md ops Q fuel listed a w
 | 0=>⟨hr,h⟩
 | _+1=>⟨fun _=>h,by rw [hr];simp⟩
theorem Qbl (k:Nat){id:Nat}{a:Act}{w:World}(hm:P.follows .mixedOrders=true)(hS:S w.drew)
 (h:S w.drew→Qdh P .any ops Q S k ops.size (Array.replicate ops.size false) a w.drew):(Code.region id ops true).wp P Q a w :=
 wp_region_any hm (Qlx _ _ _ _ (h hS))
end
end Go.Proofs.YtdheeddnkdhfeaaGreatDoor
