/- Parts of the proof: Gv, Gr, Pt, Pa, Ga, Gw, Rm, Ls, Pc. -/
import Derived.Test.YtdheeddnkdhfeaaGreatDoorJ2
import Derived.Lib.SliceRun
namespace Go.Proofs.YtdheeddnkdhfeaaGreatDoor
open Go.RowKit Go.Proofs.Tryz
def Le (w w':World):Prop:=∀ a v,w.cell? a=some v→w'.cell? a=some v
theorem Le.refl (w:World):Le w w:=fun _ _ h=>h
theorem Le.trans {a b c:World}(h:Le a b)(k:Le b c):Le a c:=fun x v hx=>k x v (h x v hx)
theorem Le.below {w w':World}(hb:Below w.heap.size w w'):Le w w':=fun _ _ h=>Zc hb (Zn _) h
section
variable {w w':World} {A:Option Addr} {n:Nat}
theorem RdK.le {k:IntKind}{l:List Int}(h:RdK k w A n l)(hl:Le w w'):RdK k w' A n l :=
 ⟨h.1,fun i x hx=>by obtain ⟨b,o,e,hc⟩:=h.2 i x hx;exact ⟨b,o,e,hl _ _ hc⟩⟩
theorem RdP.le {l:List (Int×Int)} (h:RdP w A n l) (hl:Le w w'):RdP w' A n l :=
 ⟨h.1,fun i x hx=>by obtain ⟨b,o,e,hc,hd⟩:=h.2 i x hx;exact ⟨b,o,e,hl _ _ hc,hl _ _ hd⟩⟩
theorem Rd3.le {l:List Tri}(h:Rd3 w A n l)(hl:Le w w'):Rd3 w' A n l :=
 ⟨h.1,fun i x hx=>by obtain ⟨b,o,e,h1,h2,h3⟩:=h.2 i x hx;exact ⟨b,o,e,hl _ _ h1,hl _ _ h2,hl _ _ h3⟩⟩
theorem RdT.le {ls:List (List Int)} (h:RdT w A n ls) (hl:Le w w'):RdT w' A n ls :=
 ⟨h.1,fun i l hx=>by obtain ⟨b,o,A',n',c',h1,h2,h3,h4⟩:=h.2 i l hx;exact ⟨b,o,A',n',c',h1,hl _ _ h2,h3.le hl,h4⟩⟩
theorem Qpp.le {b o:Nat}{t:Qcv}(h:Qpp w b o t)(hl:Le w w'):Qpp w' b o t:=by
 obtain ⟨h1,h2,A,n,c,h3,h4,h5⟩:=h;exact ⟨hl _ _ h1,hl _ _ h2,A,n,c,hl _ _ h3,h4.le hl,h5⟩
theorem RdY.le {l:List Qcv}(h:RdY w A n l)(hl:Le w w'):RdY w' A n l :=
 ⟨h.1,fun i t ht=>by obtain ⟨b,o,e,hc⟩:=h.2 i t ht;exact ⟨b,o,e,hc.le hl⟩⟩
theorem Qbg.le {B C:Option Addr}{m k:Nat}{N:Qak}(h:Qbg w A B C n m k N)(hl:Le w w'):Qbg w' A B C n m k N:=⟨h.1.le hl,h.2.1.le hl,h.2.2.le hl⟩
end
noncomputable def msk (W:World) (G:Nat→Prop):World:=by classical exact { W with heap:=W.heap.mapIdx (fun i o=>if G i then o else .cells #[] 0) }
theorem Qyj {W:World}{G:Nat→Prop}{b:Nat}(h:G b):(msk W G).heap[b]?=W.heap[b]?:=by
 unfold msk;simp only [Array.getElem?_mapIdx]
 cases W.heap[b]? with
 | none=>rfl
 | some o=>simp [h]
theorem Qal {W:World}{G:Nat→Prop}{a:Addr}{v:Value}:(msk W G).cell? a=some v↔G a.block∧W.cell? a=some v:=by
 by_cases h:G a.block
 · unfold World.cell?
   rw [Qyj h];simp [h]
 · unfold World.cell? msk
   simp only [Array.getElem?_mapIdx]
   cases W.heap[a.block]? with
   | none=>simp [h]
   | some o=>simp [h]
theorem Qbd (W:World)(G:Nat→Prop):Le (msk W G) W:=fun _ _ h=>(Qal.1 h).2
theorem Qbe {W:World}{G G':Nat→Prop}(h:∀ b,G b→G' b):Le (msk W G) (msk W G'):=fun _ _ hc=>Qal.2 ⟨h _ (Qal.1 hc).1,(Qal.1 hc).2⟩
def Qbb (G:Nat→Prop)(W W':World):Prop:=∀ b,G b→b<W.heap.size→W'.heap[b]?=W.heap[b]?
theorem Qbb.refl (G:Nat→Prop)(W:World):Qbb G W W:=fun _ _ _=>rfl
theorem Qbb.trans {G:Nat→Prop}{a b c:World}(h:Qbb G a b)(k:Qbb G b c)(hz:a.heap.size≤b.heap.size):Qbb G a c:=fun i hi hl=>(k i hi (by omega)).trans (h i hi hl)
theorem Qbb.below {G:Nat→Prop}{W W':World}(h:Below W.heap.size W W'):Qbb G W W':=fun b _ hl=>h.block b hl
theorem Qbb.mono {G G':Nat→Prop}{W W':World}(h:Qbb G W W')(hs:∀ b,G' b→G b):Qbb G' W W':=fun b hb hl=>h b (hs b hb) hl
theorem Qbb.grown {G:Nat→Prop}{W W':World}{r:Option Nat}(h:W.grownBy W' r)(hr:∀ b,G b→r≠some b):Qbb G W W':=fun b hb hl=>h.block b hl (fun e=>hr b hb e.symm)
theorem Qbb.set {G:Nat→Prop}(W:World)(g i:Nat)(v:Value)(h:¬G g):Qbb G W (W.setCell ⟨g,i,none⟩ v):=Qbb.grown (Qaa W g i v) (fun b hb e=>h (by cases e;exact hb))
theorem Qbb.msk {G:Nat→Prop}{W W':World}(h:Qbb G W W'):Le (msk W G) (msk W' G):=fun a v hc=>by
 obtain ⟨h1,h2⟩:=Qal.1 hc;refine Qal.2 ⟨h1,?_⟩;rw [World.cell?_of_block (h _ h1 (Qah h2))];exact h2
section
variable {W:World} {G:Nat→Prop} {A:Option Addr} {n:Nat}
theorem RdK.msk {k:IntKind}{l:List Int}(h:RdK k W A n l)(hg:∀ b,Qac A=some b→G b):RdK k (msk W G) A n l :=
 ⟨h.1,fun i x hx=>by obtain ⟨b,o,e,hc⟩:=h.2 i x hx;exact ⟨b,o,e,Qal.2 ⟨hg b (by rw [e];rfl),hc⟩⟩⟩
theorem RdP.msk {l:List (Int×Int)} (h:RdP W A n l) (hg:∀ b,Qac A=some b→G b):RdP (msk W G) A n l :=
 ⟨h.1,fun i x hx=>by obtain ⟨b,o,e,hc,hd⟩:=h.2 i x hx;exact ⟨b,o,e,Qal.2 ⟨hg b (by rw [e];rfl),hc⟩,Qal.2 ⟨hg b (by rw [e];rfl),hd⟩⟩⟩
theorem Rd3.msk {l:List Tri}(h:Rd3 W A n l)(hg:∀ b,Qac A=some b→G b):Rd3 (msk W G) A n l :=
 ⟨h.1,fun i x hx=>by
  obtain ⟨b,o,e,h1,h2,h3⟩:=h.2 i x hx;have hb:=hg b (by rw [e];rfl);exact ⟨b,o,e,Qal.2 ⟨hb,h1⟩,Qal.2 ⟨hb,h2⟩,Qal.2 ⟨hb,h3⟩⟩⟩
end
/-! Rows of Qcs, each of the call's own, as the cells of one block. -/
def IkO (W:World)(B g n:Nat) (ls:List (List Int)):Prop :=
 ls.length=n∧g<B∧∃ cs,Blk W g 61 cs∧cs.size=n∧(∀ (v:Nat) (l:List Int),ls[v]?=some l→∃ A c,cs[v]?=some (.slice A l.length c)∧Own W B 3 1 A l.length c (Qaf l)) ∧
  ∀ (v v':Nat) A m c A' m' c',v≠v'→cs[v]?=some (.slice A m c)→cs[v']?=some (.slice A' m' c')→Dj A A'
theorem IkO.start {W:World}{B g n:Nat}(hg:g<B) (h:Blk W g 61 (Qbv (.slice none 0 0) n)):IkO W B g n (List.replicate n []):=by
 exact Kax
theorem IkO.grown {W W':World}{B g n:Nat}{r:Option Nat} {ls:List (List Int)} (h:IkO W B g n ls) (hg:W.grownBy W' r) (hr:∀ b,r=some b→b≠g∧b<B):IkO W' B g n ls:=by
 obtain ⟨h1,h2,cs,h3,h4,h5,h6⟩:=h;refine ⟨h1,h2,cs,h3.grown hg (fun e=>(hr g e).1 rfl),h4,fun v l hl=>?_,h6⟩;obtain ⟨A,c,k1,k2⟩:=h5 v l hl;refine ⟨A,c,k1,k2.far hg ?_⟩
 cases hA:Qac A with
 | none=>exact .inl rfl
 | some b =>
  refine .inr (fun e=>?_);have h8:=(k2.lt b hA).1;have h9:=(hr b e.symm).2;omega
theorem IkO.below {W W':World}{B g n:Nat} {ls:List (List Int)} (h:IkO W B g n ls) (hb:Below W.heap.size W W'):IkO W' B g n ls:=by
 exact Kbn
theorem IkO.row {W:World}{B g n u:Nat} {ls:List (List Int)} (h:IkO W B g n ls) (hu:u<n):∃ A c l,ls[u]?=some l∧W.cell? ⟨g,u,none⟩=some (.slice A l.length c)∧W.frozen? ⟨g,u,none⟩=false∧Own W B 3 1 A l.length c (Qaf l):=by
 exact Kbl
theorem IkO.lt {W:World}{B g n:Nat} {ls:List (List Int)} (h:IkO W B g n ls):g<W.heap.size:=by
 obtain ⟨_,_,cs,h3,_⟩:=h;exact h3.lt
theorem IkO.push {W w':World}{B g n u c c':Nat}{A A':Option Addr} {ls:List (List Int)} {l:List Int} {k:Int} (h:IkO W B g n ls) (hl:ls[u]?=some l) (hc:W.cell? ⟨g,u,none⟩=some (.slice A l.length c))
 (hown:Own w' B 3 1 A' (l.length+1) c' (Qaf l ++Qaf [k])) (hg:W.grownBy w' (Qac A)) (hat:Qac A'=Qac A∨Qac A'=some W.heap.size) :
 IkO (w'.setCell ⟨g,u,none⟩ (.slice A' (l.length+1) c')) B g n (ls.set u (l ++[k])):=by
 obtain ⟨h1,h2,cs,h3,h4,h5,h6⟩:=h;have hu:=(Zs hl).1;have hcs:cs[u]?=some (.slice A l.length c):=by rw [←h3.cell];exact hc
 exact Kan
theorem IkO.cellG {W w':World}{B g n u:Nat}{r:Option Nat} {ls:List (List Int)} (h:IkO W B g n ls) (hu:u<n) (hg:W.grownBy w' r) (hr:r≠some g):∃ v,w'.cell? ⟨g,u,none⟩=some v∧w'.frozen? ⟨g,u,none⟩=false:=by
 exact Kcm
theorem IkO.rdM {W:World}{G:Nat→Prop}{B g n:Nat} {ls:List (List Int)} (h:IkO W B g n ls) (hg:G g) (hB:∀ b,B≤b→b<W.heap.size→G b):RdT (msk W G) (some ⟨g,0,none⟩) n ls:=by
 obtain ⟨h1,h2,cs,h3,h4,h5,h6⟩:=h;refine ⟨h1,fun i l hl=>?_⟩;obtain ⟨A,c,k1,k2⟩:=h5 i l hl;exact ⟨g,0,A,l.length,c,rfl,Qal.2 ⟨hg,by rw [Yz,h3.cell];exact k1⟩,(k2.rds.rdI).msk (fun b hb=>hB b (k2.lt b hb).1 (k2.lt b hb).2),k2.cap,k2.capMax⟩
/-! The lists of a graph. -/
def idx (f:Tri→Int)(l:List Tri)(v:Int):List Int:=(l.zipIdx.filter (fun p=>f p.1 == v)).map (fun p=>(p.2:Int))
theorem idx_nil (f:Tri→Int)(v:Int):idx f [] v=[]:=rfl
theorem idx_snoc (f:Tri→Int)(l:List Tri)(a:Tri)(v:Int):idx f (l ++[a]) v=idx f l v ++(if f a == v then [(l.length:Int)] else []):=by
 unfold idx;rw [List.zipIdx_append,List.filter_append,List.map_append]
 congr 1
 cases h:f a == v <;> simp [h]
theorem Qeo {f:Tri→Int}{l:List Tri}{a:Tri}{k:Nat} (h:l[k]?=some a) (v:Int):idx f (l.take (k+1)) v=idx f (l.take k) v ++(if f a == v then [(k:Int)] else []):=by
 have hlt:=(Zs h).1;rw [Yf hlt,(Zs h).2,idx_snoc,Yw,Nat.min_eq_left (by omega)]
theorem Qid (p:Tri→Bool):∀ (l:List Tri) (i:Nat),(l.zipIdx i).countP (fun q=>p q.1)=l.countP p
 | [],_=>rfl
 | a::l,i=>by
  rw [List.zipIdx_cons,List.countP_cons,List.countP_cons,Qid p l (i+1)]
theorem Qod (f:Tri→Int)(l:List Tri)(v:Int):(idx f l v).length=l.countP (fun a=>f a == v):=by
 unfold idx;rw [List.length_map,←List.countP_eq_length_filter];exact Qid (fun a=>f a == v) l 0
theorem Qfm {f:Tri→Int}{l:List Tri}{v x:Int}:x∈idx f l v↔∃ (i:Nat) (a:Tri),x=(i:Int)∧l[i]?=some a∧f a=v:=by
 unfold idx;simp only [List.mem_map,List.mem_filter,beq_iff_eq]
 exact Kbw
theorem Qnd (f:Tri→Int)(v:Int):∀ l:List Tri,(idx f l v).Pairwise (·<·):=by
 intro l;unfold idx;rw [List.pairwise_map];refine List.Pairwise.filter _ ?_;rw [List.pairwise_iff_getElem];intro i j hi hj hij;simp;exact hij
def Qim (f:Tri→Int)(l:List Tri)(n:Nat):List (List Int):=(List.range n).map (fun v:Nat=>idx f l (v:Int))
theorem Qjq (f:Tri→Int)(l:List Tri)(n:Nat):(Qim f l n).length=n:=by simp [Qim]
theorem Qdm {f:Tri→Int}{l:List Tri}{n v:Nat}(h:v<n):(Qim f l n)[v]?=some (idx f l (v:Int)):=by
 unfold Qim;rw [Yt,List.getElem?_range h]
 rfl
theorem Qkb (f:Tri→Int)(n:Nat):Qim f [] n=List.replicate n []:=by
 apply List.ext_getElem?
 intro i
 rcases Nat.lt_or_ge i n with h|h
 · rw [Qdm h,idx_nil];simp [h]
 · rw [Yd (by rw [Qjq];exact h),Yd (by simpa using h)]
theorem Qhy {f:Tri→Int}{l:List Tri}{n v k:Nat}{a:Tri} (ha:l[k]?=some a) (hv:f a=(v:Int)) (h:v<n) :
 (Qim f (l.take k) n).set v (idx f (l.take k) (v:Int) ++[(k:Int)])=Qim f (l.take (k+1)) n:=by
 apply List.ext_getElem?
 intro i
 rcases Nat.lt_or_ge i n with hi|hi
 · rw [Qdm hi,Qeo ha]
   by_cases e:v=i
   · subst e
     rw [Yg (by rw [Qjq];exact h)];simp [hv]
   · rw [Yh e,Qdm hi]
     have:(f a == (i:Int))=false:=by rw [hv];simp;omega
     simp [this]
 · rw [Yd (by rw [Yq,Qjq];exact hi),Yd (by rw [Qjq];exact hi)]
def Qgi (l:List Tri)(k:Nat)(a:Tri):Int×Int:=(((idx (·.2.1) (l.take k) a.2.1).length:Nat),((idx (·.1) (l.take k) a.1).length:Nat))
def plcs (l:List Tri):List (Int×Int):=l.zipIdx.map (fun p=>Qgi l p.2 p.1)
theorem Qka (l:List Tri):(plcs l).length=l.length:=by simp [plcs]
theorem Qig {l:List Tri}{k:Nat}{a:Tri} (h:l[k]?=some a):(plcs l)[k]?=some (Qgi l k a):=by
 unfold plcs;rw [Yt,List.getElem?_zipIdx,h];simp
theorem Qep (f:Tri→Int)(l:List Tri)(k:Nat)(v:Int):(idx f (l.take k) v).length≤k:=by rw [Qod];exact Qky f l k v
def TabAt2 (w v:World)(b o:Nat)(t:Qcv):Prop:=w.cell? ⟨b,o,none⟩=some (.int .i64 t.ins)∧w.cell? ⟨b,o+1,none⟩=some (.int .i64 t.outs)∧∃ (A:Option Addr) (n c:Nat),w.cell? ⟨b,o+2,none⟩=some (.slice A n c)∧RdI v A n t.costs∧n≤c∧c≤9223372036854775807
def Qua (w v:World)(A:Option Addr)(n:Nat)(l:List Qcv):Prop:=l.length=n∧∀ i t,l[i]?=some t→∃ b o,A=some ⟨b,o,none⟩∧TabAt2 w v b (o+i*3) t
theorem Qua.rdY {w v:World}{A:Option Addr}{n:Nat}{l:List Qcv}(h:Qua w v A n l)(hl:Le v w):RdY w A n l :=
 ⟨h.1,fun i t ht=>by
  obtain ⟨b,o,e,h1,h2,A',n',c',h3,h4,h5⟩:=h.2 i t ht;exact ⟨b,o,e,h1,h2,A',n',c',h3,h4.le hl,h5⟩⟩
theorem Qua.le {w w' v v':World}{A:Option Addr}{n:Nat}{l:List Qcv}(h:Qua w v A n l)(hw:∀ b o x,Qac A=some b→w.cell? ⟨b,o,none⟩=some x→w'.cell? ⟨b,o,none⟩=some x)(hl:Le v v'):Qua w' v' A n l :=
 ⟨h.1,fun i t ht=>by
  obtain ⟨b,o,e,h1,h2,A',n',c',h3,h4,h5⟩:=h.2 i t ht;have hb:Qac A=some b:=by rw [e];rfl
  exact ⟨b,o,e,hw _ _ _ hb h1,hw _ _ _ hb h2,A',n',c',hw _ _ _ hb h3,h4.le hl,h5⟩⟩
def Qut (W:World)(A:Option Addr):Prop:=∀ b,Qac A=some b→b<W.heap.size∧∀ o,W.frozen? ⟨b,o,none⟩=false
theorem Qut.keep {W W':World}{A:Option Addr}(h:Qut W A)(hz:W.heap.size≤W'.heap.size) (hk:∀ b,Qac A=some b→W'.heap[b]?=W.heap[b]?):Qut W' A:=fun b hb =>
 ⟨Yu (h b hb).1 hz,fun o=>by rw [World.frozen?_of_block (hk b hb)];exact (h b hb).2 o⟩
theorem Own.warm {w:World}{B s n c:Nat}{e:TypeId}{A:Option Addr}{xs:List Value}(h:Own w B e s A n c xs):Qut w A:=fun b hb=>by
 refine ⟨(h.lt b hb).2,fun o=>?_⟩
 rcases h.2 with ⟨h',_⟩|⟨g,cap,cur,h1,h2,h3,_⟩
 · cases h';cases hb
 · cases h1
   cases hb
   exact Blk.frozen (t:=e) (cs:=cur) h3 o
structure Qsw (W:World) (G:Nat→Prop) (A B C:Option Addr) (n m k:Nat) (N:Qak):Prop where
 vs:Rd3 (msk W G) A n N.vs
 ar:Rd3 W B m N.ar
 ts:Qua W (msk W G) C k N.ts
 wa:Qut W B
 wt:Qut W C
 ga:∀ b,Qac B=some b→¬G b
 gt:∀ b,Qac C=some b→¬G b
 ac:∀ b,Qac B=some b→Qac C≠some b
theorem Qcb {W W':World}{b o:Nat}{x:Value} (hk:W'.heap[b]?=W.heap[b]?) (h:W.cell? ⟨b,o,none⟩=some x):W'.cell? ⟨b,o,none⟩=some x:=by
 rw [World.cell?_of_block (a:=⟨b,o,none⟩) hk];exact h
theorem Rd3.keep {W W':World}{A:Option Addr}{n:Nat}{l:List Tri}(h:Rd3 W A n l) (hk:∀ b,Qac A=some b→W'.heap[b]?=W.heap[b]?):Rd3 W' A n l :=
 ⟨h.1,fun i x hx=>by
  obtain ⟨b,o,e,h1,h2,h3⟩:=h.2 i x hx;have hb:=hk b (by rw [e];rfl);exact ⟨b,o,e,Qcb hb h1,Qcb hb h2,Qcb hb h3⟩⟩
section
variable {W W':World} {G:Nat→Prop} {A B C:Option Addr} {n m k:Nat} {N:Qak}
theorem Qsw.rd (h:Qsw W G A B C n m k N):Qbg W A B C n m k N:=⟨h.vs.le (Qbd W G),h.ar,h.ts.rdY (Qbd W G)⟩
theorem Qsw.keep (h:Qsw W G A B C n m k N)(hz:W.heap.size≤W'.heap.size)(hG:Qbb G W W') (hB:∀ b,Qac B=some b→W'.heap[b]?=W.heap[b]?) (hC:∀ b,Qac C=some b→W'.heap[b]?=W.heap[b]?):Qsw W' G A B C n m k N where
 vs:=h.vs.le hG.msk
 ar:=h.ar.keep hB
 ts:=h.ts.le (fun b _ _ hb hc=>Qcb (hC b hb) hc) hG.msk
 wa:=h.wa.keep hz hB
 wt:=h.wt.keep hz hC
 ga:=h.ga
 gt:=h.gt
 ac:=h.ac
theorem Qsw.below (h:Qsw W G A B C n m k N)(hb:Below W.heap.size W W'):Qsw W' G A B C n m k N :=
 h.keep hb.size (Qbb.below hb) (fun b e=>hb.block b (h.wa b e).1) (fun b e=>hb.block b (h.wt b e).1)
theorem Qsw.mono {G':Nat→Prop}(h:Qsw W G A B C n m k N)(hs:∀ b,G b→G' b)(ha:∀ b,Qac B=some b→¬G' b)(ht:∀ b,Qac C=some b→¬G' b):Qsw W G' A B C n m k N where
 vs:=h.vs.le (Qbe hs)
 ar:=h.ar
 ts:=h.ts.le (fun _ _ _ _ hc=>hc) (Qbe hs)
 wa:=h.wa
 wt:=h.wt
 ga:=ha
 gt:=ht
 ac:=h.ac
end
structure GrR (W:World) (F G:Nat→Prop) (g:Nat) (A B C I O P:Option Addr) (n m k c d e ci co cp:Nat) (N:Qak):Prop where
 net:Qsw W G A B C n m k N
 blk:Blk W g 189 #[.slice A n c,.slice B m d,.slice C k e,.slice I n ci,.slice O n co,.slice P m cp]
 gg:G g
 ins:RdT (msk W G) I n (Qim (·.2.1) N.ar n)
 outs:RdT (msk W G) O n (Qim (·.1) N.ar n)
 plc:RdP (msk W G) P m (plcs N.ar)
 sub:∀ b,(G b∨Qac B=some b∨Qac C=some b)→F b
 lt:∀ b,F b→b<W.heap.size
 ok:Qas N
 c0:n≤c∧c≤9223372036854775807
 c1:m≤d∧d≤9223372036854775807
 c2:k≤e∧e≤9223372036854775807
def GrO (W:World)(F:Nat→Prop)(g:Nat)(N:Qak):Prop:=∃ (G:Nat→Prop) (A B C I O P:Option Addr) (n m k c d e ci co cp:Nat),GrR W F G g A B C I O P n m k c d e ci co cp N
structure GrV (W:World) (g:Nat) (A B C I O P:Option Addr) (n m k c d e ci co cp:Nat) (N:Qak):Prop where
 net:Qbg W A B C n m k N
 n0:W.cell? ⟨g,0,none⟩=some (.slice A n c)
 n1:W.cell? ⟨g,1,none⟩=some (.slice B m d)
 n2:W.cell? ⟨g,2,none⟩=some (.slice C k e)
 n3:W.cell? ⟨g,3,none⟩=some (.slice I n ci)
 n4:W.cell? ⟨g,4,none⟩=some (.slice O n co)
 n5:W.cell? ⟨g,5,none⟩=some (.slice P m cp)
 ins:RdT W I n (Qim (·.2.1) N.ar n)
 outs:RdT W O n (Qim (·.1) N.ar n)
 plc:RdP W P m (plcs N.ar)
 ok:Qas N
 c0:n≤c∧c≤9223372036854775807
 c1:m≤d∧d≤9223372036854775807
 c2:k≤e∧e≤9223372036854775807
def Qen (W:World)(g:Nat)(N:Qak):Prop:=∃ (A B C I O P:Option Addr) (n m k c d e ci co cp:Nat),GrV W g A B C I O P n m k c d e ci co cp N
theorem Qen.le {W W':World}{g:Nat}{N:Qak}(h:Qen W g N)(hl:Le W W'):Qen W' g N:=by
 obtain ⟨A,B,C,I,O,P,n,m,k,c,d,e,ci,co,cp,h⟩:=h;exact ⟨A,B,C,I,O,P,n,m,k,c,d,e,ci,co,cp,h.net.le hl,hl _ _ h.n0,hl _ _ h.n1,hl _ _ h.n2,hl _ _ h.n3,hl _ _ h.n4,hl _ _ h.n5,h.ins.le hl,h.outs.le hl,h.plc.le hl,h.ok,h.c0,h.c1,h.c2⟩
theorem Qen.below {W W':World}{g:Nat}{N:Qak}(h:Qen W g N)(hb:Below W.heap.size W W'):Qen W' g N:=h.le (Le.below hb)
theorem Blk.six {w:World}{g:Nat}{t:TypeId}{a b c d e f:Value} (h:Blk w g t #[a,b,c,d,e,f]) :
 w.cell? ⟨g,0,none⟩=some a∧w.cell? ⟨g,1,none⟩=some b∧w.cell? ⟨g,2,none⟩=some c∧w.cell? ⟨g,3,none⟩=some d∧w.cell? ⟨g,4,none⟩=some e∧w.cell? ⟨g,5,none⟩=some f :=
 ⟨Zq h,Zq h,Zq h,Zq h,Zq h,Zq h⟩
theorem GrO.rd {W:World}{F:Nat→Prop}{g:Nat}{N:Qak}(h:GrO W F g N):Qen W g N:=by
 obtain ⟨G,A,B,C,I,O,P,n,m,k,c,d,e,ci,co,cp,h⟩:=h;obtain ⟨h0,h1,h2,h3,h4,h5⟩:=h.blk.six;exact ⟨A,B,C,I,O,P,n,m,k,c,d,e,ci,co,cp,h.net.rd,h0,h1,h2,h3,h4,h5,h.ins.le (Qbd W G),h.outs.le (Qbd W G),h.plc.le (Qbd W G),h.ok,h.c0,h.c1,h.c2⟩
theorem GrO.keep {W W':World}{F:Nat→Prop}{g:Nat}{N:Qak}(h:GrO W F g N)(hz:W.heap.size≤W'.heap.size)(hF:Qbb F W W'):GrO W' F g N:=by
 obtain ⟨G,A,B,C,I,O,P,n,m,k,c,d,e,ci,co,cp,h⟩:=h;have hG:Qbb G W W':=hF.mono (fun b hb=>h.sub b (.inl hb));refine ⟨G,A,B,C,I,O,P,n,m,k,c,d,e,ci,co,cp,?_,(hF g (h.sub g (.inl h.gg)) h.blk.lt).trans h.blk,h.gg,h.ins.le hG.msk,h.outs.le hG.msk,h.plc.le hG.msk,h.sub,fun b hb=>Yu (h.lt b hb) hz,h.ok,h.c0,h.c1,h.c2⟩;exact h.net.keep hz hG (fun b hb=>hF b (h.sub b (.inr (.inl hb))) (h.net.wa b hb).1) (fun b hb=>hF b (h.sub b (.inr (.inr hb))) (h.net.wt b hb).1)
theorem GrO.below {W W':World}{F:Nat→Prop}{g:Nat}{N:Qak}(h:GrO W F g N)(hb:Below W.heap.size W W'):GrO W' F g N:=h.keep hb.size (Qbb.below hb)
theorem GrO.lt {W:World}{F:Nat→Prop}{g b:Nat}{N:Qak}(h:GrO W F g N)(hb:F b):b<W.heap.size:=by
 obtain ⟨G,A,B,C,I,O,P,n,m,k,c,d,e,ci,co,cp,h⟩:=h;exact h.lt b hb
theorem GrO.ok {W:World}{F:Nat→Prop}{g:Nat}{N:Qak}(h:GrO W F g N):Qas N:=by
 obtain ⟨G,A,B,C,I,O,P,n,m,k,c,d,e,ci,co,cp,h⟩:=h;exact h.ok
theorem Qnm {P:List Int→Prop} (h0:P []) (hs:∀ l x,P l→P (l ++[x])) (l:List Int):P l:=by
 have h:∀ l:List Int,P l.reverse:=by
  intro l
  induction l with
  | nil=>exact h0
  | cons x l ih=>rw [List.reverse_cons];exact hs _ _ ih
 have:=h l.reverse
 rwa [List.reverse_reverse] at this
def Qav (l:List Int):Int:=l.foldl (fun n x=>max n (x+1)) 0
theorem Qho (l:List Int)(x:Int):Qav (l ++[x])=max (Qav l) (x+1):=by simp [Qav]
theorem Qch:∀ l:List Int,0≤Qav l:=by
 refine Qnm (by simp [Qav]) (fun l x ih=>by rw [Qho];omega)
theorem Quh {l:List Int}{x:Int}:x∈l→x<Qav l:=by
 revert x
 refine Qnm (P:=fun l=>∀ {x:Int},x∈l→x<Qav l) (fun h=>by cases h) (fun l y ih=>?_) l
 · intro x h
   rw [Qho]
   rcases List.mem_append.1 h with h|h
   · have:=ih h;omega
   · rw [List.mem_singleton.1 h];omega
theorem Qxp {l:List Int}:0<Qav l→∃ x∈l,Qav l=x+1:=by
 refine Qnm (P:=fun l=>0<Qav l→∃ x∈l,Qav l=x+1) (fun h=>by simp [Qav] at h) (fun l y ih=>?_) l
 · intro h
   rw [Qho] at h ⊢
   by_cases h1:Qav l≤y+1
   · exact ⟨y,by simp,by omega⟩
   · have h0:=Qch l
     obtain ⟨x,hx,e⟩:=ih (by omega);exact ⟨x,List.mem_append_left _ hx,by omega⟩
theorem Qcm {l:List Int}{n:Int}(h:∀ x∈l,x<n)(hn:0≤n):Qav l≤n:=by
 by_cases h0:0<Qav l
 · obtain ⟨x,hx,e⟩:=Qxp h0
   have:=h x hx;omega
 · omega
structure Qfz (n:Nat) (l:List Int):Prop where
 len:l.length=n
 lo:∀ x∈l,0≤x
 hi:∀ x∈l,x<n
 all:∀ c:Nat,(c:Int)<Qav l→(c:Int)∈l
def Qdx (p l:List Int):Prop:=∀ (a b:Nat) (x y u v:Int),p[a]?=some x→p[b]?=some y→l[a]?=some u→l[b]?=some v→x≤y→u≤v
structure Qbc (n:Nat) (ls:List (List Int)):Prop where
 l1:1≤ls.length
 l6:ls.length≤6
 lvl:∀ l∈ls,Qfz n l
 nest:∀ (i:Nat) p l,ls[i]?=some p→ls[i+1]?=some l→Qdx p l
noncomputable def Qfa (n:Nat) (p:Option (List Int)) (l:List Int):Int:=by
 classical exact if l.length≠n then 1 else if Qfz n l∧∀ q,p=some q→Qdx q l then 0 else 10
attribute [local go_sem ↓] Go.wp_at_zero Go.wp_at_succ
theorem Qir (Q:Option Addr)(L cq i:Nat) (ls:List (List Int)) (l:List Int) (w:World) (h:RdT w Q L ls) (hl:ls[i]?=some l) (hL:L≤1000000) :
 Calls prog 193 #[.agg #[.slice Q L cq],.int .i64 ((i:Int)+1)] w fun e w'=>∃ A n c,e=.returned (.slice A n c)∧RdI w A n l∧n≤c∧c≤9223372036854775807∧Below w.heap.size w w':=by
 have hi:i<L:=by rw [←h.1];exact (Zs hl).1
 obtain ⟨b,o,A,n,c,l',rfl,hl',hc,hr,q1,q2⟩:=h.at_ hi;rw [hl] at hl'
 cases hl'
 have HR:=Zh hr;have i1:(0:Int)≤(i:Int):=by omega
 have i2:(i:Int)<(L:Int):=by omega
 have i3:¬((i:Int)+1<1):=by omega
 have i4:¬((i:Int)+1 > (L:Int)):=by omega
 have i5:(i:Int)+1-1=(i:Int):=by omega
 have hca:=fun ob=>Zc (show Below w.heap.size w (w.alloc ob) from Qag) (Zn _) hc
 clear h hl hr hc
 go_enter func193,ntmps193
 go_wp2
 go_ret
 exact ⟨_,_,_,rfl,HR.out,q1,q2,Qag⟩
theorem row_ok (Q:Option Addr)(L cq i:Nat) (ls:List (List Int)) (l:List Int) (w:World) (h:RdT w Q L ls) (hl:ls[i]?=some l) (hL:L≤1000000) :
 Calls prog 194 #[.agg #[.slice Q L cq],.int .i64 ((i:Int)+1)] w fun e w'=>∃ A n c,e=.returned (.slice A n c)∧RdI w A n l∧n≤c∧c≤9223372036854775807∧Below w.heap.size w w':=by
 have hi:i<L:=by rw [←h.1];exact (Zs hl).1
 obtain ⟨b,o,A,n,c,l',rfl,hl',hc,hr,q1,q2⟩:=h.at_ hi;rw [hl] at hl'
 cases hl'
 have HR:=Zh hr;have i1:(0:Int)≤(i:Int):=by omega
 have i2:(i:Int)<(L:Int):=by omega
 have i3:¬((i:Int)+1<1):=by omega
 have i4:¬((i:Int)+1 > (L:Int)):=by omega
 have i5:(i:Int)+1-1=(i:Int):=by omega
 have hca:=fun ob=>Zc (show Below w.heap.size w (w.alloc ob) from Qag) (Zn _) hc
 clear h hl hr hc
 go_enter func194,ntmps194
 go_wp2
 go_ret
 exact ⟨_,_,_,rfl,HR.out,q1,q2,Qag⟩
theorem Qgp {l:List Int}{k:Nat}{x:Int} (h:l[k]?=some x):Qav (l.take (k+1))=max (Qav (l.take k)) (x+1):=by
 rw [Yf (Zs h).1,(Zs h).2,Qho]
set_option maxHeartbeats 1000000 in
theorem count_ok (Q:Option Addr)(L cq i:Nat) (ls:List (List Int)) (l:List Int) (w:World) (h:RdT w Q L ls) (hl:ls[i]?=some l) (hL:L≤1000000) (hb:∀ x∈l,0≤x∧x≤1000000) :
 Calls prog 183 #[.agg #[.slice Q L cq],.int .i64 ((i:Int)+1)] w fun e w'=>e=.returned (.int .i64 (Qav l))∧Below w.heap.size w w':=by
 have HN:=Zh (show ∀ V,Below w.heap.size w V→Calls prog 193 #[.agg #[.slice Q L cq],.int .i64 ((i:Int)+1)] V fun e w'=>∃ A n c,e=.returned (.slice A n c)∧RdI V A n l∧n≤c∧c≤9223372036854775807∧Below V.heap.size V w' from fun V hV=>Qir Q L cq i ls l V (h.below hV) hl hL)
 have HB:=Zh hb;clear h hl hb
 go_enter func183,ntmps183
 go_wp2_with fail
 (refine Qab ?_;intro w1 hw1)
 have hb1:Below w.heap.size w w1:=by rw [hw1];exact Qag
 clear hw1;with_reducible refine (HN.out w1 hb1).mono ?_
 rintro e w2 ⟨A,n,c,rfl,hr,q1,q2,hb2⟩;have hr2:=hr.below hb2;have HLEN:=Zh hr.1;have hbw2:=Zb hb1 hb2;clear hr
 go_wp2_with fail
 go_loop [5,12] (fun m q=>∃ k:Nat,k≤n∧q=.int .i64 k∧m=.int .i64 (Qav (l.take k))) (fun _ q=>n-(intOf q).toNat)
 case atStart=>exact ⟨0,Nat.zero_le _,rfl,rfl⟩
 case round =>
  obtain ⟨k,hk,rfl,rfl⟩:=hrel
  by_cases hlt:k<n
  · obtain ⟨b,o,x,rfl,hx,hc⟩:=hr2.at_ hlt
    have hxb:=HB.out x (Zm hx);have HNX:=Zh (Qgp hx);have i1:(0:Int)≤(k:Int):=by omega
    have i2:(k:Int)<(n:Int):=by omega
    clear hx;generalize Qav (l.take k)=m at *
    by_cases hge:x ≥ m
    · go_wp2_with fail
      go_round
      case rel=>exact ⟨k+1,by omega,by go_num,by rw [HNX.out,show max m (x+1)=x+1 by omega]⟩
      case measure=>simp [intOf];omega
    · go_wp2_with fail
      go_round
      case rel=>exact ⟨k+1,by omega,by go_num,by rw [HNX.out,show max m (x+1)=m by omega]⟩
      case measure=>simp [intOf];omega
  · obtain rfl:n=k:=by omega
    have HE:=Zh (show Qav (l.take n)=Qav l by rw [Ye (by rw [HLEN.out];exact Zn _)])
    go_wp2
    go_ret
    exact ⟨Qcf HE.out,hbw2⟩
theorem Qas.arLe {N:Qak}(h:Qas N){m:Nat}(e:N.ar.length=m):m≤16384:=by rw [←e];exact h.la
theorem Qmo (g:Nat)(N:Qak)(w:World)(h:Qen w g N):Calls prog 141 #[.pointer (some ⟨g,0,none⟩)] w fun e w'=>e=.returned (.int .i64 (N.vs.length:Int))∧w=w':=by
 obtain ⟨A,B,C,I,O,P,n,m,k,c,d,e,ci,co,cp,h⟩:=h;have h0:=h.n0;have HL:=Zh h.net.1.1;clear h
 go_enter func141,ntmps141
 go_wp2
 go_ret
 exact ⟨Qcf (by rw [HL.out]),rfl⟩
theorem Qhq (g:Nat)(N:Qak)(w:World)(h:Qen w g N):Calls prog 99 #[.pointer (some ⟨g,0,none⟩)] w fun e w'=>e=.returned (.int .i64 (N.ar.length:Int))∧w=w':=by
 obtain ⟨A,B,C,I,O,P,n,m,k,c,d,e,ci,co,cp,h⟩:=h;have h1:=h.n1;have HL:=Zh h.net.2.1.1;clear h
 go_enter func99,ntmps99
 go_wp2
 go_ret
 exact ⟨Qcf (by rw [HL.out]),rfl⟩
theorem Qga (g:Nat)(N:Qak)(a:Int)(w:World)(h:Qen w g N)(h0:0≤a)(h1:a<N.ar.length):Calls prog 93 #[.pointer (some ⟨g,0,none⟩),.int .i64 a] w fun e w'=>e=.returned (.bool true)∧w=w':=by
 obtain ⟨A,B,C,I,O,P,n,m,k,c,d,e,ci,co,cp,h⟩:=h;have hn1:=h.n1;have hl:=h.net.2.1.1;rw [hl] at h1;clear hl h
 exact Kcd
theorem Qiv (g:Nat)(N:Qak)(a:Int)(w:World)(h:Qen w g N) (h1:¬(0≤a∧a<N.ar.length)):Calls prog 93 #[.pointer (some ⟨g,0,none⟩),.int .i64 a] w fun e w'=>e=.returned (.bool false)∧w=w':=by
 obtain ⟨A,B,C,I,O,P,n,m,k,c,d,e,ci,co,cp,h⟩:=h;have hn1:=h.n1;have hl:=h.net.2.1.1;rw [hl] at h1;clear hl h
 by_cases h0:0≤a
 · have h2:¬a<m:=by omega
   clear h1
   exact Kcd
 · clear h1
   exact Kcd
theorem Qhw (g a:Nat)(N:Qak)(x:Tri)(w:World)(h:Qen w g N) (hx:N.ar[a]?=some x):Calls prog 143 #[.pointer (some ⟨g,0,none⟩),.int .i64 a] w fun e w'=>e=.returned (.int .i64 x.1)∧w=w':=by
 have HA:=Zh (show ∀ V,V=w→Calls prog 93 #[.pointer (some ⟨g,0,none⟩),.int .i64 a] V fun e w'=>e=.returned (.bool true)∧V=w' from fun V e=>e▸Qga g N a w h (by omega) (by have:=(Zs hx).1;omega))
 obtain ⟨A,B,C,I,O,P,n,m,k,c,d,e,ci,co,cp,h⟩:=h;have hn1:=h.n1;have ha:a<m:=by have:=(Zs hx).1;rw [h.net.2.1.1] at this;exact this
 have hm:=h.ok.arLe h.net.2.1.1;obtain ⟨b,o,x',y',z',rfl,hx',cx,cy,cz⟩:=h.net.2.1.at_ ha;rw [hx] at hx'
 cases hx'
 have i1:(0:Int)≤(a:Int):=by omega
 have i2:(a:Int)<(m:Int):=by omega
 clear hx h
 go_enter func143,ntmps143
 exact Kby
theorem Qhs (g a:Nat)(N:Qak)(x:Tri)(w:World)(h:Qen w g N) (hx:N.ar[a]?=some x):Calls prog 144 #[.pointer (some ⟨g,0,none⟩),.int .i64 a] w fun e w'=>e=.returned (.int .i64 x.2.1)∧w=w':=by
 have HA:=Zh (show ∀ V,V=w→Calls prog 93 #[.pointer (some ⟨g,0,none⟩),.int .i64 a] V fun e w'=>e=.returned (.bool true)∧V=w' from fun V e=>e▸Qga g N a w h (by omega) (by have:=(Zs hx).1;omega))
 obtain ⟨A,B,C,I,O,P,n,m,k,c,d,e,ci,co,cp,h⟩:=h;have hn1:=h.n1;have ha:a<m:=by have:=(Zs hx).1;rw [h.net.2.1.1] at this;exact this
 have hm:=h.ok.arLe h.net.2.1.1;obtain ⟨b,o,x',y',z',rfl,hx',cx,cy,cz⟩:=h.net.2.1.at_ ha;rw [hx] at hx'
 cases hx'
 have i1:(0:Int)≤(a:Int):=by omega
 have i2:(a:Int)<(m:Int):=by omega
 clear hx h
 go_enter func144,ntmps144
 exact Kby
/-! Rows of Qcs, each of the call's own, as the cells of one block. -/
def IkG (t:TypeId)(W:World)(B g n:Nat) (ls:List (List Int)):Prop :=
 ls.length=n∧g<B∧∃ cs,Blk W g t cs∧cs.size=n∧(∀ (v:Nat) (l:List Int),ls[v]?=some l→∃ A c,cs[v]?=some (.slice A l.length c)∧Own W B 3 1 A l.length c (Qaf l)) ∧
  ∀ (v v':Nat) A m c A' m' c',v≠v'→cs[v]?=some (.slice A m c)→cs[v']?=some (.slice A' m' c')→Dj A A'
theorem IkG.start {t:TypeId}{W:World}{B g n:Nat}(hg:g<B) (h:Blk W g t (Qbv (.slice none 0 0) n)):IkG t W B g n (List.replicate n []):=by
 exact Kax
theorem IkG.below {t:TypeId}{W W':World}{B g n:Nat} {ls:List (List Int)} (h:IkG t W B g n ls) (hb:Below W.heap.size W W'):IkG t W' B g n ls:=by
 exact Kbn
theorem IkG.row {t:TypeId}{W:World}{B g n u:Nat} {ls:List (List Int)} (h:IkG t W B g n ls) (hu:u<n):∃ A c l,ls[u]?=some l∧W.cell? ⟨g,u,none⟩=some (.slice A l.length c)∧W.frozen? ⟨g,u,none⟩=false∧Own W B 3 1 A l.length c (Qaf l):=by
 exact Kbl
theorem IkG.lt {t:TypeId}{W:World}{B g n:Nat} {ls:List (List Int)} (h:IkG t W B g n ls):g<W.heap.size:=by
 obtain ⟨_,_,cs,h3,_⟩:=h;exact h3.lt
theorem IkG.push {t:TypeId}{W w':World}{B g n u c c':Nat}{A A':Option Addr} {ls:List (List Int)} {l:List Int} {k:Int} (h:IkG t W B g n ls) (hl:ls[u]?=some l) (hc:W.cell? ⟨g,u,none⟩=some (.slice A l.length c))
 (hown:Own w' B 3 1 A' (l.length+1) c' (Qaf l ++Qaf [k])) (hg:W.grownBy w' (Qac A)) (hat:Qac A'=Qac A∨Qac A'=some W.heap.size) :
 IkG t (w'.setCell ⟨g,u,none⟩ (.slice A' (l.length+1) c')) B g n (ls.set u (l ++[k])):=by
 obtain ⟨h1,h2,cs,h3,h4,h5,h6⟩:=h;have hu:=(Zs hl).1;have hcs:cs[u]?=some (.slice A l.length c):=by rw [←h3.cell];exact hc
 exact Kan
theorem IkG.cellG {t:TypeId}{W w':World}{B g n u:Nat}{r:Option Nat} {ls:List (List Int)} (h:IkG t W B g n ls) (hu:u<n) (hg:W.grownBy w' r) (hr:r≠some g):∃ v,w'.cell? ⟨g,u,none⟩=some v∧w'.frozen? ⟨g,u,none⟩=false:=by
 exact Kcm
/-! Arcs of a row that are marked. -/
def Qin (P:Tri→Bool)(l:List Tri):List Int:=(l.zipIdx.filter (fun p=>P p.1)).map (fun p=>(p.2:Int))
theorem Qxm (P:Tri→Bool)(l:List Tri)(a:Tri):Qin P (l ++[a])=Qin P l ++(if P a then [(l.length:Int)] else []):=by
 unfold Qin;rw [List.zipIdx_append,List.filter_append,List.map_append]
 congr 1
 cases h:P a <;> simp [h]
theorem Qkn {P:Tri→Bool}{l:List Tri}{a:Tri}{k:Nat} (h:l[k]?=some a):Qin P (l.take (k+1))=Qin P (l.take k) ++(if P a then [(k:Int)] else []):=by
 have hlt:=(Zs h).1;rw [Yf hlt,(Zs h).2,Qxm,Yw,Nat.min_eq_left (by omega)]
theorem Qfp (P:Tri→Bool)(l:List Tri):(Qin P l).length≤l.length:=by
 unfold Qin;rw [List.length_map];refine Yx (List.length_filter_le _ _) ?_;simp
theorem Qtn {P:Tri→Bool}{l:List Tri}{x:Int}:x∈Qin P l↔∃ (i:Nat) (a:Tri),x=(i:Int)∧l[i]?=some a∧P a=true:=by
 unfold Qin;simp only [List.mem_map,List.mem_filter]
 exact Kbw
theorem Qkr (P:Tri→Bool):∀ l:List Tri,(Qin P l).Pairwise (·<·):=by
 intro l;unfold Qin;rw [List.pairwise_map];refine List.Pairwise.filter _ ?_;rw [List.pairwise_iff_getElem];intro i j hi hj hij;simp;exact hij
def Qad (l:List Int)(v:Int):Int:=l.getD v.toNat 0
theorem Qat {l:List Int}{v:Nat}{p:Int} (h:l[v]?=some p):Qad l (v:Int)=p:=by
 unfold Qad;rw [Yl,Ya,h]
 rfl
def Qcj (l:List Int)(a:Tri):Bool:=Qad l a.1 != Qad l a.2.1
def Qax (ar:List Tri)(l:List Int):List Int:=Qin (Qcj l) ar
def toC (ar:List Tri)(l:List Int)(a:Int):Int:=Qad l (ar.getD a.toNat (0,0,0)).2.1
def frC (ar:List Tri)(l:List Int)(a:Int):Int:=Qad l (ar.getD a.toNat (0,0,0)).1
theorem Qnr {ar:List Tri}{l:List Int}{a:Nat}{x:Tri} (h:ar[a]?=some x):toC ar l (a:Int)=Qad l x.2.1:=by
 unfold toC;rw [Yl,Ya,h]
 rfl
theorem Qoa {ar:List Tri}{l:List Int}{a:Nat}{x:Tri} (h:ar[a]?=some x):frC ar l (a:Int)=Qad l x.1:=by
 unfold frC;rw [Yl,Ya,h]
 rfl
def Qdv (t f:Int→Int)(X:List Int)(n:Nat):List (List Int):=(List.range (n*2)).map (fun i:Nat=>if i % 2=0 then X.filter (fun a=>t a == ((i / 2:Nat):Int)) else X.filter (fun a=>f a == ((i / 2:Nat):Int)))
theorem Qgh (t f:Int→Int)(X:List Int)(n:Nat):(Qdv t f X n).length=n*2:=by simp [Qdv]
theorem Qjp {t f:Int→Int}{X:List Int}{n c:Nat}(h:c<n):(Qdv t f X n)[c*2]?=some (X.filter (fun a=>t a == (c:Int))):=by
 unfold Qdv;rw [Yt,List.getElem?_range (by omega)];simp
theorem Qif {t f:Int→Int}{X:List Int}{n c:Nat}(h:c<n):(Qdv t f X n)[c*2+1]?=some (X.filter (fun a=>f a == (c:Int))):=by
 unfold Qdv;rw [Yt,List.getElem?_range (by omega),Option.map_some,if_neg (by omega),show (c*2+1) / 2=c by omega]
theorem Qos (t f:Int→Int)(n:Nat):Qdv t f [] n=List.replicate (n*2) []:=by
 apply List.ext_getElem?
 intro i
 rcases Nat.lt_or_ge i (n*2) with h|h
 · unfold Qdv
   rw [Yt,List.getElem?_range h];simp [h]
 · rw [Yd (by rw [Qgh];exact h),Yd (by simpa using h)]
theorem Qml {t f:Int→Int}{X:List Int}{n p q:Nat}{a:Int} (hp:t a=(p:Int)) (hq:f a=(q:Int)) (h1:p<n) (h2:q<n) :
 ((Qdv t f X n).set (p*2) (X.filter (fun a=>t a == (p:Int)) ++[a])).set (q*2+1) (X.filter (fun a=>f a == (q:Int)) ++[a])=Qdv t f (X ++[a]) n:=by
 apply List.ext_getElem?
 intro i
 rcases Nat.lt_or_ge i (n*2) with hi|hi
 · have hl:∀ Y,(Qdv t f Y n)[i]?=some (if i % 2=0 then Y.filter (fun a=>t a == ((i / 2:Nat):Int)) else Y.filter (fun a=>f a == ((i / 2:Nat):Int))):=fun Y=>by
    unfold Qdv;rw [Yt,List.getElem?_range hi]
    rfl
   by_cases e1:q*2+1=i
   · subst e1
     rw [Yg (by rw [Yq,Qgh];exact hi),Qif h2,List.filter_append];simp [hq]
   · rw [Yh e1]
     by_cases e2:p*2=i
     · subst e2
       rw [Yg (by rw [Qgh];exact hi),Qjp h1,List.filter_append];simp [hp]
     · rw [Yh e2,hl,hl]
       congr 1
       rcases Nat.mod_two_eq_zero_or_one i with h0|h0
       · rw [if_pos h0,if_pos h0,List.filter_append]
         simp [hp];omega
       · rw [if_neg (by omega),if_neg (by omega),List.filter_append]
         simp [hq];omega
 · rw [Yd (by rw [Yq,Yq,Qgh];exact hi),Yd (by rw [Qgh];exact hi)]
abbrev Qam:=List Int×List Int
def RdC (w:World)(A:Option Addr)(n:Nat)(row:List Qam):Prop :=
 row.length=n∧∀ c x,row[c]?=some x→∃ b o A1 n1 c1 A2 n2 c2,A=some ⟨b,o,none⟩∧w.cell? ⟨b,o+c*2,none⟩=some (.slice A1 n1 c1)∧RdI w A1 n1 x.1∧w.cell? ⟨b,o+c*2+1,none⟩=some (.slice A2 n2 c2)∧RdI w A2 n2 x.2∧(n1≤c1∧c1≤9223372036854775807)∧n2≤c2∧c2≤9223372036854775807
theorem RdC.le {w w':World}{A:Option Addr}{n:Nat}{row:List Qam}(h:RdC w A n row)(hl:Le w w'):RdC w' A n row :=
 ⟨h.1,fun c x hx=>by
  obtain ⟨b,o,A1,n1,c1,A2,n2,c2,e,h1,h2,h3,h4,h5⟩:=h.2 c x hx;exact ⟨b,o,A1,n1,c1,A2,n2,c2,e,hl _ _ h1,h2.le hl,hl _ _ h3,h4.le hl,h5⟩⟩
theorem RdC.at_ {w:World}{A:Option Addr}{n c:Nat}{row:List Qam}(h:RdC w A n row)(hc:c<n):∃ x b o A1 n1 c1 A2 n2 c2,row[c]?=some x∧A=some ⟨b,o,none⟩∧w.cell? ⟨b,o+c*2,none⟩=some (.slice A1 n1 c1)∧RdI w A1 n1 x.1∧w.cell? ⟨b,o+c*2+1,none⟩=some (.slice A2 n2 c2)∧RdI w A2 n2 x.2∧(n1≤c1∧c1≤9223372036854775807)∧n2≤c2∧c2≤9223372036854775807:=by
 have hl:c<row.length:=by rw [h.1];exact hc
 obtain ⟨b,o,A1,n1,c1,A2,n2,c2,h1⟩:=h.2 c _ (Zg hl);exact ⟨_,b,o,A1,n1,c1,A2,n2,c2,Zg hl,h1⟩
def RdG (w:World)(A:Option Addr)(n:Nat) (gs:List (List Qam)):Prop :=
 gs.length=n∧∀ i row,gs[i]?=some row→∃ b o A' n' c',A=some ⟨b,o,none⟩∧w.cell? ⟨b,o+i,none⟩=some (.slice A' n' c')∧RdC w A' n' row∧n'≤c'∧c'≤9223372036854775807
theorem RdG.le {w w':World}{A:Option Addr}{n:Nat} {gs:List (List Qam)} (h:RdG w A n gs) (hl:Le w w'):RdG w' A n gs :=
 ⟨h.1,fun i row hx=>by
  obtain ⟨b,o,A',n',c',e,h1,h2,h3⟩:=h.2 i row hx;exact ⟨b,o,A',n',c',e,hl _ _ h1,h2.le hl,h3⟩⟩
theorem RdG.at_ {w:World}{A:Option Addr}{n i:Nat} {gs:List (List Qam)} (h:RdG w A n gs) (hi:i<n):∃ row b o A' n' c',gs[i]?=some row∧A=some ⟨b,o,none⟩∧w.cell? ⟨b,o+i,none⟩=some (.slice A' n' c')∧RdC w A' n' row∧n'≤c'∧c'≤9223372036854775807:=by
 have hl:i<gs.length:=by rw [h.1];exact hi
 obtain ⟨b,o,A',n',c',h1⟩:=h.2 i _ (Zg hl);exact ⟨_,b,o,A',n',c',Zg hl,h1⟩
def gateRow (ar:List Tri)(l:List Int):List Qam:=(List.range (Qav l).toNat).map (fun c:Nat=>((Qax ar l).filter (fun a=>toC ar l a == (c:Int)),(Qax ar l).filter (fun a=>frC ar l a == (c:Int))))
theorem Qau (ar:List Tri)(l:List Int):(gateRow ar l).length=(Qav l).toNat:=by simp [gateRow]
theorem Qco {ar:List Tri}{l:List Int}{c:Nat} (h:c<(Qav l).toNat):(gateRow ar l)[c]?=some ((Qax ar l).filter (fun a=>toC ar l a == (c:Int)),(Qax ar l).filter (fun a=>frC ar l a == (c:Int))):=by
 unfold gateRow;rw [Yt,List.getElem?_range h]
 rfl
def gatesOf (ar:List Tri) (ls:List (List Int)):List (List Qam):=ls.map (gateRow ar)
set_option maxHeartbeats 1000000 in
theorem Qwu (g a:Nat)(N:Qak)(A:Option Addr)(n c u v:Nat)(z p q:Int)(l:List Int)(w:World)(h:Qen w g N)(hr:RdI w A n l) (hx:N.ar[a]?=some ((u:Int),(v:Int),z)) (hu:u<n) (hv:v<n) (hp:l[u]?=some p) (hq:l[v]?=some q) :
 Calls prog 195 #[.pointer (some ⟨g,0,none⟩),.slice A n c,.int .i64 a] w fun e w'=>e=.returned (.tuple #[.int .i64 p,.int .i64 q,.bool true])∧∃ k,w'=w.drewN k:=by
 have HF:=Zh (Qhw g a N _ w h hx);have HT:=Zh (Qhs g a N _ w h hx);obtain ⟨b,o,p',rfl,hp',cp⟩:=hr.at_ hu;rw [hp] at hp'
 cases hp'
 obtain ⟨b',o',q',e,hq',cq⟩:=hr.at_ hv;rw [hq] at hq'
 cases hq'
 cases e
 have i1:(0:Int)≤(u:Int):=by omega
 have i2:(u:Int)<(n:Int):=by omega
 have i3:(0:Int)≤(v:Int):=by omega
 have i4:(v:Int)<(n:Int):=by omega
 clear h hr hx hp hq
 go_enter func195,ntmps195
 go_wp2_with fail
 with_reducible refine HF.out.mono ?_
 rintro e w' ⟨rfl,rfl⟩
 go_wp2_with fail
 with_reducible refine HT.out.mono ?_
 rintro e w' ⟨rfl,rfl⟩
 go_wp2_with fail
 go_quiet (fail)
 go_wp2_with fail
 go_ret3
 exact ⟨rfl,_,rfl⟩
set_option maxHeartbeats 1000000 in
theorem cross_ok (g:Nat)(N:Qak)(Q:Option Addr)(L cq i n:Nat) (ls:List (List Int)) (l:List Int) (w:World) (h:Qen w g N) (hN:Qas N) (hq:RdT w Q L ls) (hl:ls[i]?=some l) (hL:L≤1000000) (hlo:Qfz n l) (hn:N.vs.length=n) :
 Calls prog 184 #[.pointer (some ⟨g,0,none⟩),.agg #[.slice Q L cq],.int .i64 ((i:Int)+1)] w fun e w'=>∃ A c,e=.returned (.slice A (Qax N.ar l).length c)∧RdI w' A (Qax N.ar l).length (Qax N.ar l)∧(∀ b,Qac A=some b→w.heap.size≤b∧b<w'.heap.size)∧Below w.heap.size w w':=by
 have HG:=Zh h;have HN:=Zh hN;have hn4:n≤4096:=by rw [←hn];exact hN.lv
 have hm:N.ar.length≤16384:=hN.la;have HR:=Zh (show ∀ V,Below w.heap.size w V→Calls prog 194 #[.agg #[.slice Q L cq],.int .i64 ((i:Int)+1)] V fun e w'=>∃ A n c,e=.returned (.slice A n c)∧RdI V A n l∧n≤c∧c≤9223372036854775807∧Below V.heap.size V w' from fun V hV=>row_ok Q L cq i ls l V (hq.below hV) hl hL)
 have HLO:=Zh hlo;have HVN:=Zh hn;clear h hN hq hl hlo hn
 go_enter func184,ntmps184
 go_wp2_with fail
 (refine Qab ?_;intro w1 hw1)
 have hb1:Below w.heap.size w w1:=by rw [hw1];exact Qag
 clear hw1;with_reducible refine (HR.out w1 hb1).mono ?_
 rintro e w2 ⟨A,n',c,rfl,hr,q1,q2,hb2⟩;obtain rfl:n=n':=by rw [←hr.1];exact HLO.out.len.symm
 have hr2:=hr.below hb2;have hbw2:=Zb hb1 hb2;have hz0:=hbw2.size;clear hr hb2 hb1
 go_wp2_with fail
 with_reducible refine (Qhq g N w2 (HG.out.below hbw2)).mono ?_
 rintro e w' ⟨rfl,rfl⟩
 go_wp2_with fail
 generalize hM:N.ar.length=M at *;have HM:=Zh hM;clear hM
 go_loopw [8,18] (fun x q W=>Below w.heap.size w W∧w2.heap.size≤W.heap.size∧Below w2.heap.size w2 W∧∃ (j:Nat) (X:Option Addr) (k cx:Nat),j≤M∧q=.int .i64 j∧x=.slice X k cx∧k≤j∧Own W w2.heap.size 3 1 X k cx (Qaf (Qin (Qcj l) (N.ar.take j)))) (fun _ q _=>M-(intOf q).toNat)
 case atStart=>exact ⟨hbw2,Zn _,Zr _ _,0,none,0,0,Nat.zero_le _,rfl,rfl,Zn _,Own.nil _ _ _ _⟩
 case round =>
  clear hbw2;obtain ⟨hbl,hsz,hb2r,j,X,k,cx,hj,rfl,rfl,hkj,hown⟩:=hrel
  by_cases hlt:j<M
  · obtain ⟨⟨fx,tx,zx⟩,hx⟩:∃ x,N.ar[j]?=some x:=⟨_,Zg (by rw [HM.out];exact hlt)⟩
    have hok:=HN.out.arcs _ (Zm hx);have f0:=hok.f0;have f1:=hok.f1;have g0:=hok.g0;have g1:=hok.g1;simp only at f0 f1 g0 g1;rw [HVN.out] at f1 g1;obtain ⟨u,rfl⟩:∃ u:Nat,fx=u:=⟨fx.toNat,by omega⟩;obtain ⟨v,rfl⟩:∃ v:Nat,tx=v:=⟨tx.toNat,by omega⟩;have hu:u<n:=by omega
    have hv:v<n:=by omega
    obtain ⟨p,hp⟩:∃ p,l[u]?=some p:=⟨_,Zg (by rw [HLO.out.len];exact hu)⟩;obtain ⟨q,hq⟩:∃ q,l[v]?=some q:=⟨_,Zg (by rw [HLO.out.len];exact hv)⟩;have HE:=Zh (Qwu g j N A n c u v zx p q l wr (HG.out.below hbl) (hr2.below hb2r) hx hu hv hp hq);have HNX:=Zh (Qkn (P:=Qcj l) hx);have hcb:Qcj l ((u:Int),(v:Int),zx)=(p != q):=by unfold Qcj;simp only;rw [Qat hp,Qat hq]
    rw [hcb] at HNX;clear hx hok hcb hp hq
    go_wp2_with fail
    with_reducible refine HE.out.mono ?_
    rintro e w4 ⟨rfl,nq,hw4⟩;have hbl4:Below w.heap.size w w4:=by rw [hw4];exact Qbi hbl _
    have hb24:Below w2.heap.size w2 w4:=by rw [hw4];exact Qbi hb2r _
    have hsz4:w2.heap.size≤w4.heap.size:=by rw [hw4];exact hsz
    have hown4:Own w4 w2.heap.size 3 1 X k cx (Qaf (Qin (Qcj l) (N.ar.take j))):=by rw [hw4];exact hown
    clear hw4 hbl hb2r hsz hown HE
    by_cases hpq:p=q
    · have e1:(p != q)=false:=by simpa using hpq
      have e2:(p == q)=true:=by simpa using hpq
      rw [e1] at HNX;clear hpq
      go_wp2_with fail
      go_roundw
      case rel=>exact ⟨hbl4,hsz4,hb24,j+1,X,k,cx,by omega,by go_num,rfl,by omega,by rw [HNX.out];simpa using hown4⟩
      case measure=>simp [intOf];omega
    · have e1:(p != q)=true:=by simpa using hpq
      have e2:(p == q)=false:=by simpa using hpq
      rw [e1] at HNX;clear hpq;have hlt4:Below w4.heap.size w4 (w4.alloc (.cells #[.int .i64 (j:Int)] 3)):=Qag;have hownA:=hown4.below hlt4;have hrA:Rds (w4.alloc (.cells #[.int .i64 (j:Int)] 3)) 1 (some ⟨w4.heap.size,0,none⟩) 1 (Qaf [(j:Int)]):=(Blk.new w4 3 (Qcs [(j:Int)])).rds rfl;have hblA:=Zb hbl4 hlt4;have hb2A:=Zb hb24 hlt4
      go_wp2_with (at_builtin;with_reducible refine Qan rfl (.tmp 35) (.tmp 37) 61 rfl 3 _ 1 8 Qbs underlying61 rfl (by omega) rfl rfl hownA hrA (Qao _) (by omega) (by omega) (by simp;omega) ?_)
      intro A' c' w' hown' hg _;have hbl5:Below w.heap.size w w':=Zo hblA hg (hownA.mono (by omega)) (by simp;omega);have hb25:Below w2.heap.size w2 w':=Zo hb2A hg hownA (by simp;omega);have hsz5:w2.heap.size≤w'.heap.size:=hb25.size;have HO:=Zh hown';clear hown' hg hownA hrA hblA hb2A hlt4 hown4 hbl4 hb24 hsz4
      go_wp2
      go_roundw
      case rel=>exact ⟨hbl5,hsz5,hb25,j+1,A',k+1,c',by omega,by go_num,rfl,by omega,by rw [HNX.out,if_pos trivial,Qbr];exact HO.out⟩
      case measure=>simp [intOf];omega
  · obtain rfl:M=j:=by omega
    rw [Ye (by rw [HM.out];exact Zn _)] at hown;have HO:=Zh hown;have hk:k=(Qax N.ar l).length:=by have:=hown.1;rw [Nat.mul_one] at this;rw [←this];simp [Qaf,Qax]
    have HK:=Zh hk;clear hown hk
    go_wp2
    go_ret
    exact ⟨X,cx,by rw [←HK.out];rfl,by rw [←HK.out];exact HO.out.rds.rdI,fun b hb=>by have:=HO.out.lt b hb;omega,hbl⟩
def plI (l:List Int)(v:Int):Int:=match l.findIdx? (· == v) with|some i=>(i:Int)|none=>-1
theorem Qok {l:List Int}{v:Int}{k:Nat} (h:l[k]?=some v) (hj:∀ j x,j<k→l[j]?=some x→x≠v):plI l v=k:=by
 unfold plI;have hk:=(Zs h).1
 have:l.findIdx? (· == v)=some k:=by
  rw [List.findIdx?_eq_some_iff_getElem];refine ⟨hk,by simpa using (Zs h).2,fun j hjk=>?_⟩
  simpa using hj j _ hjk (Zg (by omega))
 rw [this]
theorem Qcq {l:List Int}{v:Int}(h:v ∉ l):plI l v = -1:=by
 unfold plI
 have:l.findIdx? (· == v)=none:=by
  rw [List.findIdx?_eq_none_iff];intro x hx;have:x≠v:=fun e=>h (e▸hx)
  simpa using this
 rw [this]
theorem Qgg {l:List Int}{v:Int}(h:v∈l):∃ k:Nat,plI l v=k∧l[k]?=some v:=by
 obtain ⟨k,hk⟩:=Yr h;unfold plI
 cases e:l.findIdx? (· == v) with
 | none =>
  rw [List.findIdx?_eq_none_iff] at e;have:=e v h;simp at this
 | some i =>
  rw [List.findIdx?_eq_some_iff_getElem] at e;obtain ⟨hi,h1,_⟩:=e;refine ⟨i,rfl,?_⟩;rw [Zg hi]
  simpa using h1
theorem plI_nn {l:List Int}{v:Int}:0≤plI l v↔v∈l:=by
 constructor
 · intro h
   by_cases hm:v∈l
   · exact hm
   · rw [Qcq hm] at h
     omega
 · intro h
   obtain ⟨k,e,_⟩:=Qgg h;omega
set_option maxHeartbeats 400000 in
theorem Qyt (A:Option Addr)(n c:Nat)(l:List Int)(v:Int)(w:World)(h:RdI w A n l)(hn:n≤1000000000) :
 Calls prog 198 #[.slice A n c,.int .i64 v] w fun e w'=>e=.returned (.int .i64 (plI l v))∧w=w':=by
 have HR:=Zh h;have HL:=Zh h.1;clear h
 go_enter func198,ntmps198
 go_wp2_with fail
 go_loop [8] (fun q=>∃ k:Nat,k≤n∧q=.int .i64 k∧∀ j x,j<k→l[j]?=some x→x≠v) (fun q=>n-(intOf q).toNat)
 case atStart=>exact ⟨0,Nat.zero_le _,rfl,fun _ _ h=>absurd h (Nat.not_lt_zero _)⟩
 case round =>
  exact Kar
theorem Qqf (A:Option Addr)(n c:Nat)(l:List Int)(v:Int)(w:World)(h:RdI w A n l)(hn:n≤1000000000) :
 Calls prog 190 #[.slice A n c,.int .i64 v] w fun e w'=>e=.returned (.bool (decide (v∈l)))∧w=w':=by
 have HI:=Zh (Qyt A n c l v w h hn);have HD:=Zh (show decide ((0:Int)≤plI l v)=decide (v∈l) by simp [plI_nn])
 clear h
 go_enter func190,ntmps190
 go_wp2_with fail
 with_reducible refine HI.out.mono ?_
 rintro e w' ⟨rfl,rfl⟩;generalize plI l v=p at *
 go_wp2_with fail
 go_ret
 exact ⟨Qbh (by rw [←HD.out]),rfl⟩
theorem less_any (a b:Int)(w:World):Calls prog 161 #[.int .i64 a,.int .i64 b] w fun e w'=>e=.returned (.bool (decide (a<b)))∧w=w':=by
 go_enter func161,ntmps161
 go_wp2
 go_ret
 exact ⟨Qbh (by simp),rfl⟩
def Qit (l:List Int):Bool:=decide (l.Pairwise (·≤·))
theorem Qmc {l:List Int} (h:∀ (j:Nat) (x y:Int),l[j]?=some x→l[j+1]?=some y→x≤y):Qit l=true:=by
 unfold Qit;rw [decide_eq_true_eq,List.pairwise_iff_getElem];intro i j hi hj hij;obtain ⟨d,rfl⟩:∃ d,j=i+1+d:=⟨j-i-1,by omega⟩;clear hij
 induction d with
 | zero=>exact h i _ _ (Zg hi) (Zg hj)
 | succ d ih =>
  have:=ih (by omega);have:=h (i+1+d) _ _ (Zg (by omega)) (Zg hj);omega
theorem Qst {l:List Int}{j:Nat}{x y:Int} (h1:l[j]?=some x) (h2:l[j+1]?=some y) (h:y<x):Qit l=false:=by
 unfold Qit;rw [decide_eq_false_iff_not,List.pairwise_iff_getElem];intro hp;have:=hp j (j+1) (Zs h1).1 (Zs h2).1 (by omega);rw [(Zs h1).2,(Zs h2).2] at this;omega
set_option maxHeartbeats 1000000 in
theorem Qqs (A:Option Addr)(n c:Nat)(l:List Int)(w:World)(h:RdI w A n l)(hn:n≤1000000000) :
 Calls prog 191 #[.slice A n c] w fun e w'=>e=.returned (.bool (Qit l))∧∃ k,w'=w.drewN k:=by
 have HR:=Zh h;have HL:=Zh h.1;clear h
 go_enter func191,ntmps191
 go_wp2_with fail
 go_loopw [3] (fun q W=>(∃ d,W=w.drewN d)∧∃ k:Int,-1≤k∧k<n∧q=.int .i64 k∧∀ (j:Nat) x y,k≤j→l[j]?=some x→l[j+1]?=some y→x≤y) (fun q _=>(intOf q).toNat)
 case atStart =>
  refine ⟨⟨0,rfl⟩,(n:Int)-1,by omega,by omega,rfl,fun j x y hj _ hy=>?_⟩;have:=(Zs hy).1;rw [HL.out] at this;omega
 case round =>
  obtain ⟨hd,k,hk,hkn,rfl,hj⟩:=hrel;have HW:=Zh hd;have HJ:=Zh hj;clear hj
  by_cases hlt:0<k
  · obtain ⟨m,rfl⟩:∃ m:Nat,k=(m:Int)+1:=⟨(k-1).toNat,by omega⟩
    obtain ⟨b,o,x,rfl,hx,hc⟩:=HR.out.at_ (show m<n by omega)
    obtain ⟨b',o',y,e,hy,hc'⟩:=HR.out.at_ (show m+1<n by omega)
    cases e
    have hc1:wr.cell? ⟨b,o+m,none⟩=some (.int .i64 x):=by obtain ⟨d,rfl⟩:=hd;exact hc
    have hc2:wr.cell? ⟨b,o+(m+1),none⟩=some (.int .i64 y):=by obtain ⟨d,rfl⟩:=hd;exact hc'
    have HLS:=Zh (fun V=>less_any y x V);have i1:(0:Int)≤(m:Int):=by omega
    have i2:(m:Int)<(n:Int):=by omega
    have i3:(m:Int)+1<(n:Int):=by omega
    have i4:(0:Int)≤(m:Int)+1:=by omega
    have i5:(m:Int)+1-1=(m:Int):=by omega
    have i6:((m:Int)+1).toNat=m+1:=by omega
    have HX:=Zh hx;have HY:=Zh hy;clear hx hy hc hc' hd
    by_cases hyx:y<x
    · have e1:decide (y<x)=true:=by simpa using hyx
      have HS:=Zh (Qst HX.out HY.out hyx)
      go_wp2_with fail
      go_quiet ((go_at_call 161;exact Qgo (HLS.out _)))
      go_wp2_with fail
      go_ret
      refine ⟨Qbh HS.out.symm,?_⟩;obtain ⟨d,e⟩:=HW.out;exact ⟨d+nq,by rw [e,World.drewN_drewN]⟩
    · have e1:decide (y<x)=false:=by simpa using hyx
      have HS:=Zh hyx
      go_wp2_with fail
      go_quiet ((go_at_call 161;exact Qgo (HLS.out _)))
      go_wp2_with fail
      go_roundw
      case rel =>
       obtain ⟨d,e⟩:=HW.out;refine ⟨⟨d+nq,by rw [e,World.drewN_drewN]⟩,(m:Int),by omega,by omega,by first|rfl|go_num,fun j x' y' hj h1 h2=>?_⟩
       by_cases ej:j=m
       · subst ej
         rw [HX.out] at h1;rw [HY.out] at h2
         cases h1
         cases h2
         have:=HS.out;omega
       · exact HJ.out j x' y' (by omega) h1 h2
      case measure=>simp [intOf]
  · have HS:=Zh (Qmc (l:=l) (fun j x y h1 h2=>HJ.out j x y (by omega) h1 h2))
    go_wp2_with fail
    go_ret
    exact ⟨Qbh HS.out.symm,HW.out⟩
def Qqw (l:List Int)(n:Nat):List Int:=(List.range n).map (fun c:Nat=>((l.countP (fun x=>x == (c:Int)):Nat):Int))
theorem Qgs (l:List Int)(n:Nat):(Qqw l n).length=n:=by simp [Qqw]
theorem Qeq {l:List Int}{n v:Nat}(h:v<n):(Qqw l n)[v]?=some ((l.countP (fun x=>x == (v:Int)):Nat):Int):=by
 unfold Qqw;rw [Yt,List.getElem?_range h]
 rfl
theorem Qpi (n:Nat):Qcs (Qqw [] n)=Qbv (.int .i64 0) n:=by
 rw [Qct]
 congr 1
 apply List.ext_getElem?
 intro i
 rcases Nat.lt_or_ge i n with h|h
 · rw [Qeq h];simp [h]
 · rw [Yd (by rw [Qgs];exact h),Yd (by simpa using h)]
theorem Qqb {l:List Int}{n v k:Nat} (ha:l[k]?=some (v:Int)) (h:v<n) :
 (Qqw (l.take k) n).set v ((((l.take k).countP (fun x=>x == (v:Int)):Nat):Int)+1)=Qqw (l.take (k+1)) n:=by
 apply List.ext_getElem?
 intro i;rw [Yf (Zs ha).1,(Zs ha).2]
 rcases Nat.lt_or_ge i n with hi|hi
 · rw [Qeq hi,List.countP_append]
   by_cases e:v=i
   · subst e
     rw [Yg (by rw [Qgs];exact h)];simp
   · rw [Yh e,Qeq hi]
     have:((v:Int) == (i:Int))=false:=by simp;omega
     simp [this]
 · rw [Yd (by rw [Yq,Qgs];exact hi),Yd (by rw [Qgs];exact hi)]
theorem Qzp (l:List Int)(k:Nat)(v:Int):(l.take k).countP (fun x=>x == v)≤k:=Yx List.countP_le_length (List.length_take_le _ _)
theorem Qxc (l:List Int){n m:Nat}(h:m≤n):(Qqw l n).take m=Qqw l m:=by
 apply List.ext_getElem?
 intro i;rw [List.getElem?_take]
 split
 · rename_i hi
   rw [Qeq (by omega),Qeq hi]
 · rw [Yd (by rw [Qgs];omega)]
theorem cntI_pos {n:Nat}{l:List Int}(h:Qfz n l):(0:Int) ∉ Qqw l (Qav l).toNat:=by
 intro hm;unfold Qqw at hm;rw [List.mem_map] at hm;obtain ⟨c,hc,e⟩:=hm;rw [List.mem_range] at hc;have hc2:=h.all c (by omega);have:=List.countP_pos_iff (p:=fun x=>x == (c:Int)).2 ⟨(c:Int),hc2,by simp⟩;omega
set_option maxHeartbeats 1000000 in
theorem tally_ok (A:Option Addr)(n c:Nat)(l:List Int)(w:World)(h:RdI w A n l)(hl:Qfz n l)(hn:n≤1000000) :
 Calls prog 179 #[.slice A n c] w fun e w'=>∃ g,e=.returned (.tuple #[.slice (some ⟨g,0,none⟩) (Qav l).toNat n,.bool true])∧RdI w' (some ⟨g,0,none⟩) (Qav l).toNat (Qqw l (Qav l).toNat)∧Below w.heap.size w w':=by
 have HR:=Zh h;have HL:=Zh h.1;have HO:=Zh hl;have hmk:=Qdo n (by omega);clear h hl
 go_enter func179,ntmps179
 go_wp2_with fail
 (refine Qai ?_;intro w1 hw1)
 have hb1:Below w.heap.size w w1:=by rw [hw1];exact Qag
 have hB1:Blk w1 w.heap.size 3 (Qcs (Qqw (l.take 0) n)):=by rw [hw1,List.take_zero,Qpi];exact Blk.new _ _ _
 clear hw1 hmk
 go_loopw [6,15] (fun m q W=>Below w.heap.size w W∧∃ k:Nat,k≤n∧q=.int .i64 k∧m=.int .i64 (Qav (l.take k)-1)∧Blk W w.heap.size 3 (Qcs (Qqw (l.take k) n))) (fun _ q _=>n-(intOf q).toNat)
 case atStart=>exact ⟨hb1,0,Nat.zero_le _,rfl,rfl,hB1⟩
 case round =>
  clear hb1 hB1;obtain ⟨hbl,k,hk,rfl,rfl,hB⟩:=hrel
  by_cases hlt:k<n
  · obtain ⟨b,o,x,rfl,hx,hc⟩:=HR.out.at_ hlt
    have x0:=HO.out.lo x (Zm hx);have x1:=HO.out.hi x (Zm hx);obtain ⟨v,rfl⟩:∃ v:Nat,x=v:=⟨x.toNat,by omega⟩;have hv:v<n:=by omega
    have hc2:=Zc hbl (Zn _) hc;have HNX:=Zh (Qgp hx);have c1:=hB.cellI (Qeq (l:=l.take k) hv);have c1f:=hB.frozen v;have d1:=Qzp l k (v:Int);have m0:=Qch (l.take k);have m1:=Qcm (l:=l.take k) (n:=(n:Int)) (fun x hx=>HO.out.hi x (List.mem_of_mem_take hx)) (by omega);have HBN:=Zh (hB.setI (Qqb hx hv));have i1:(0:Int)≤(k:Int):=by omega
    have i2:(k:Int)<(n:Int):=by omega
    have i3:(0:Int)≤(v:Int):=by omega
    have i4:(v:Int)<(n:Int):=by omega
    clear hx hc hB;generalize (l.take k).countP (fun x=>x == (v:Int))=p at *;generalize Qav (l.take k)=m at *;have hbn:Below w.heap.size w (wr.setCell ⟨w.heap.size,v,none⟩ (.int .i64 ((p:Int)+1))):=hbl.setCell (Zn _) _;have HM:=Zh (show (if m-1<(v:Int) then (v:Int) else m-1)=max m ((v:Int)+1)-1∧max (m-1) (v:Int)=max m ((v:Int)+1)-1 by constructor <;> (try split) <;> omega)
    go_wp2_with fail
    go_roundw
    case rel=>exact ⟨hbn,k+1,by omega,by go_num,by rw [HNX.out];first|rw [HM.out.1]|rw [HM.out.2],HBN.out⟩
    case measure=>simp [intOf];omega
  · obtain rfl:n=k:=by omega
    rw [Ye (by rw [HL.out];exact Zn _)] at hB;have HE:=Zh (show Qav (l.take n)=Qav l by rw [Ye (by rw [HL.out];exact Zn _)])
    have m0:=Qch l;have m1:=Qcm (l:=l) (n:=(n:Int)) (fun x hx=>HO.out.hi x hx) (by omega);have HP:=Zh (cntI_pos HO.out);have hrd:=(hB.rdI (n:=n) (Qgs l n)).take (m:=(Qav l).toNat) (by omega);rw [Qxc l (by omega)] at hrd;rw [HE.out];obtain ⟨M,hM⟩:∃ M:Nat,Qav l=M:=⟨(Qav l).toNat,by omega⟩;rw [hM] at m0 m1 ⊢;have HMM:=Zh hM;rw [hM,Yl] at hrd HP;have HCT:=Zh (show Calls prog 190 #[.slice (some ⟨w.heap.size,0,none⟩) M n,.int .i64 0] wr fun e w'=>e=.returned (.bool false)∧wr=w' from (Qqf _ M n _ 0 wr hrd (by omega)).mono (fun e w' h=>⟨by rw [h.1,decide_eq_false HP.out],h.2⟩))
    have HRD:=Zh hrd;clear hM hrd hB;have i1:(M:Int)-1+1=(M:Int):=by omega
    go_wp2_with fail
    with_reducible refine HCT.out.mono ?_
    rintro e w' ⟨rfl,rfl⟩
    go_wp2_with fail
    go_ret2
    exact ⟨w.heap.size,by rw [HMM.out,Yl];rfl,by rw [HMM.out,Yl];exact HRD.out,hbl⟩
structure UpI (p l U:List Int) (k:Nat):Prop where
 len:U.length=p.length
 put:∀ (v c:Nat) (y:Int),v<k→p[v]?=some (c:Int)→l[v]?=some y→U[c]?=some y
 got:∀ (c:Nat) (y:Int),U[c]?=some y→y = -1∨∃ v,v<k∧p[v]?=some (c:Int)∧l[v]?=some y
theorem UpI.start (p l:List Int):UpI p l (List.replicate p.length (-1)) 0 :=
 ⟨by simp,fun v _ _ h=>absurd h (Nat.not_lt_zero _),fun c y h=>.inl (by
  have:=Zm h;exact (List.mem_replicate.1 this).2)⟩
theorem UpI.next {p l U:List Int}{k c:Nat}{y:Int}(h:UpI p l U k)(hn:Qdx p l) (hp:p[k]?=some (c:Int)) (hl:l[k]?=some y) (hc:c<p.length):UpI p l (U.set c y) (k+1):=by
 refine ⟨by rw [Yq];exact h.len,fun v d z hv h1 h2=>?_,fun d z hz=>?_⟩
 · by_cases e:c=d
   · subst e
     rw [Yg (by rw [h.len];exact hc)];have q1:=hn v k _ _ _ _ h1 hp h2 hl (Int.le_refl _);have q2:=hn k v _ _ _ _ hp h1 hl h2 (Int.le_refl _)
     congr 1
     omega
   · rw [Yh e]
     by_cases ev:v=k
     · subst ev
       rw [hp] at h1
       injection h1 with h1
       omega
     · exact h.put v d z (by omega) h1 h2
 · by_cases e:c=d
   · subst e
     rw [Yg (by rw [h.len];exact hc)] at hz
     cases hz
     exact .inr ⟨k,by omega,hp,hl⟩
   · rw [Yh e] at hz
     rcases h.got d z hz with h1|⟨v,h1,h2⟩
     · exact .inl h1
     · exact .inr ⟨v,by omega,h2⟩
theorem UpI.eq {p l U:List Int}{k c:Nat}{y z:Int}(h:UpI p l U k)(hn:Qdx p l) (hp:p[k]?=some (c:Int)) (hl:l[k]?=some y) (hz:U[c]?=some z):z = -1∨z=y:=by
 rcases h.got c z hz with h1|⟨v,h1,h2,h3⟩
 · exact .inl h1
 · have q1:=hn v k _ _ _ _ h2 hp h3 hl (Int.le_refl _)
   have q2:=hn k v _ _ _ _ hp h2 hl h3 (Int.le_refl _);exact .inr (by omega)
theorem UpI.sorted {p l U:List Int}{n:Nat}(h:UpI p l U n)(hn:Qdx p l)(hp:Qfz n p)(hl:l.length=n):Qit (U.take (Qav p).toNat)=true:=by
 refine Qmc (fun j x y h1 h2=>?_);rw [List.getElem?_take] at h1 h2
 split at h1
 · rename_i q1
   split at h2
   · rename_i q2
     obtain ⟨a,ha⟩:=Yr (hp.all j (by omega));obtain ⟨b,hb⟩:=Yr (hp.all (j+1) (by omega));have la:=(Zs ha).1;have lb:=(Zs hb).1;rw [hp.len] at la lb;have ea:l[a]?=some l[a]:=Zg (by omega);have eb:l[b]?=some l[b]:=Zg (by omega);have p1:=h.put a j _ la ha ea;have p2:=h.put b (j+1) _ lb hb eb;rw [p1] at h1;rw [p2] at h2
     cases h1
     cases h2
     exact hn a b _ _ _ _ ha hb ea eb (by omega)
   · cases h2
 · cases h1
theorem Qxf {n k:Nat}(h:k<n):(List.replicate k (-1:Int) ++List.replicate (n-k) 0).set k (-1)=List.replicate (k+1) (-1) ++List.replicate (n-(k+1)) 0:=by
 rw [List.set_append_right _ _ (by simp)];obtain ⟨m,hm⟩:∃ m,n-k=m+1:=⟨n-k-1,by omega⟩;rw [hm,show n-(k+1)=m by omega,List.replicate_succ' (n:=k)]
 simp [List.replicate_succ]
set_option maxHeartbeats 2000000 in
theorem Qzf (A B:Option Addr)(n c d:Nat)(p l:List Int)(w:World)(h:RdI w A n p)(h2:RdI w B n l)(hp:Qfz n p)(hl:Qfz n l)(hN:Qdx p l)(hn:n≤1000000) :
 Calls prog 180 #[.slice A n c,.slice B n d] w fun e w'=>e=.returned (.bool true)∧Below w.heap.size w w':=by
 have HR:=Zh h;have HR2:=Zh h2;have HL:=Zh h.1;have HO:=Zh hp;have HO2:=Zh hl;have HN:=Zh hN;have hmk:=Qdo n (by omega);clear h h2 hl hp hN
 go_enter func180,ntmps180
 go_wp2_with fail
 (refine Qai ?_;intro w1 hw1)
 have hb1:Below w.heap.size w w1:=by rw [hw1];exact Qag
 have hB1:Blk w1 w.heap.size 3 (Qcs (List.replicate 0 (-1) ++List.replicate (n-0) 0)):=by rw [hw1];simp only [List.replicate_zero,List.nil_append,Nat.sub_zero];rw [←Qct];exact Blk.new _ _ _
 clear hw1 hmk
 go_loopw [15] (fun q W=>Below w.heap.size w W∧∃ k:Nat,k≤n∧q=.int .i64 k∧Blk W w.heap.size 3 (Qcs (List.replicate k (-1) ++List.replicate (n-k) 0))) (fun q _=>n-(intOf q).toNat)
 case atStart=>exact ⟨hb1,0,Nat.zero_le _,rfl,hB1⟩
 case round =>
  clear hb1 hB1;obtain ⟨hbl,k,hk,rfl,hB⟩:=hrel
  by_cases hlt:k<n
  · obtain ⟨z,hz⟩:∃ z,(List.replicate k (-1:Int) ++List.replicate (n-k) 0)[k]?=some z:=⟨_,Zg (by simp;omega)⟩
    have c1:=hB.cellI hz;have c1f:=hB.frozen k;have HB:=Zh (hB.setI (Qxf hlt));have hbn:Below w.heap.size w (wr.setCell ⟨w.heap.size,k,none⟩ (.int .i64 (-1))):=hbl.setCell (Zn _) _;have i1:(0:Int)≤(k:Int):=by omega
    have i2:(k:Int)<(n:Int):=by omega
    clear hB hz hbl
    go_wp2_with fail
    go_roundw
    case rel=>exact ⟨hbn,k+1,by omega,by go_num,HB.out⟩
    case measure=>simp [intOf];omega
  · obtain rfl:n=k:=by omega
    rw [Yy,List.replicate_zero,List.append_nil] at hB;have HU:=Zh (show UpI p l (List.replicate n (-1)) 0 from by have:=UpI.start p l;rw [HL.out] at this;exact this)
    go_wp2_with fail
    go_loopw [7,24] (fun m q W=>Below w.heap.size w W∧∃ (k:Nat) (U:List Int),k≤n∧q=.int .i64 k∧m=.int .i64 (Qav (p.take k)-1)∧Blk W w.heap.size 3 (Qcs U)∧UpI p l U k) (fun _ q _=>n-(intOf q).toNat)
    case atStart=>exact ⟨hbl,0,_,Nat.zero_le _,rfl,rfl,hB,HU.out⟩
    case round =>
     clear hbl hB HU;obtain ⟨hbl,k,U,hk,rfl,rfl,hB,hU⟩:=hrel;have HU:=Zh hU
     by_cases hlt2:k<n
     · obtain ⟨b,o,x,rfl,hx,hc⟩:=HR.out.at_ hlt2
       obtain ⟨b2,o2,y,rfl,hy,hcy⟩:=HR2.out.at_ hlt2;have x0:=HO.out.lo x (Zm hx);have x1:=HO.out.hi x (Zm hx);have y0:=HO2.out.lo y (Zm hy);obtain ⟨v,rfl⟩:∃ v:Nat,x=v:=⟨x.toNat,by omega⟩;have hv:v<n:=by omega
       have hc2:=Zc hbl (Zn _) hc;have hcy2:=Zc hbl (Zn _) hcy;have HNX:=Zh (Qgp hx);obtain ⟨z,hz⟩:∃ z,U[v]?=some z:=⟨_,Zg (by rw [hU.len,HL.out];exact hv)⟩;have hzz:=hU.eq HN.out hx hy hz;have c1:=hB.cellI hz;have c1f:=hB.frozen v;have m0:=Qch (p.take k);have m1:=Qcm (l:=p.take k) (n:=(n:Int)) (fun x hx=>HO.out.hi x (List.mem_of_mem_take hx)) (by omega);have HBN:=Zh (hB.setI (l':=U.set v y) rfl);have HUN:=Zh (hU.next HN.out hx hy (by rw [HL.out];exact hv));have i1:(0:Int)≤(k:Int):=by omega
       have i2:(k:Int)<(n:Int):=by omega
       have i3:(0:Int)≤(v:Int):=by omega
       have i4:(v:Int)<(n:Int):=by omega
       have hbn:Below w.heap.size w (wr.setCell ⟨w.heap.size,v,none⟩ (.int .i64 y)):=hbl.setCell (Zn _) _;clear hx hy hc hcy hB hU hz HU hbl;generalize Qav (p.take k)=m at *;have HM:=Zh (show (if m-1<(v:Int) then (v:Int) else m-1)=max m ((v:Int)+1)-1∧max (m-1) (v:Int)=max m ((v:Int)+1)-1 by constructor <;> (try split) <;> omega)
       by_cases hz0:z ≥ 0
       · obtain rfl:z=y:=by omega
         clear hzz
         exact Kbv
       · obtain rfl:z = -1:=by omega
         clear hzz hz0
         exact Kbv
     · obtain rfl:n=k:=by omega
       have HE:=Zh (show Qav (p.take n)=Qav p by rw [Ye (by rw [HL.out];exact Zn _)])
       have m0:=Qch p;have m1:=Qcm (l:=p) (n:=(n:Int)) (fun x hx=>HO.out.hi x hx) (by omega);have HS:=Zh (hU.sorted HN.out HO.out HO2.out.len);have hrd:=(hB.rdI (n:=n) (by rw [hU.len];exact HL.out)).take (m:=(Qav p).toNat) (by omega);rw [HE.out];obtain ⟨M,hM⟩:∃ M:Nat,Qav p=M:=⟨(Qav p).toNat,by omega⟩;rw [hM] at m0 m1 ⊢;rw [hM,Yl] at hrd HS;have HCT:=Zh (show Calls prog 191 #[.slice (some ⟨w.heap.size,0,none⟩) M n] wr fun e w'=>e=.returned (.bool true)∧∃ k,w'=wr.drewN k from (Qqs _ M n _ wr hrd (by omega)).mono (fun e w' h=>⟨by rw [h.1,HS.out],h.2⟩))
       have i1:(M:Int)-1+1=(M:Int):=by omega
       clear hM hrd hB hU HE HU
       go_wp2_with fail
       with_reducible refine HCT.out.mono ?_
       rintro e w' ⟨rfl,nq,hw'⟩;have hbe:Below w.heap.size w w':=by rw [hw'];exact Qbi hbl _
       clear hw'
       go_wp2_with fail
       go_ret
       exact ⟨rfl,hbe⟩
set_option maxHeartbeats 2000000 in
set_option maxRecDepth 20000 in
theorem Qjj (Q:Option Addr)(n L cq:Nat) (ls:List (List Int)) (w:World) (h:RdT w Q L ls) (hP:Qbc n ls) (hn:n≤4096) :
 Calls prog 140 #[.int .i64 n,.agg #[.slice Q L cq],.slice none 0 0] w fun e w'=>e=.returned .nilIface∧Below w.heap.size w w':=by
 have HT:=Zh h;have HP:=Zh hP;have l1:1≤L:=by rw [←h.1];exact hP.l1
 have l6:L≤6:=by rw [←h.1];exact hP.l6
 have HLEN:=Zh h.1;clear h hP;have j1:((L:Int) == 0)=false:=by simp;omega
 have j2:¬(n:Int)<0:=by omega
 have j3:¬(n:Int) > 4096:=by omega
 have j4:¬(L:Int) > 6:=by omega
 have j5:¬L=0:=by omega
 go_enter func140,ntmps140
 go_wp2_with fail
 (refine Qai ?_;intro w1 hw1)
 have hb1:Below w.heap.size w w1:=by rw [hw1];exact Qag
 have hQ:Blk w1 w.heap.size 132 #[.slice Q L cq]:=by rw [hw1];exact Qay
 have hBd:Blk w1 (w.heap.size+1) 61 #[.slice none 0 0]:=by rw [hw1];exact Qay
 clear hw1
 go_loopw [45] (fun q W=>Below w.heap.size w W∧Blk W w.heap.size 132 #[.slice Q L cq]∧Blk W (w.heap.size+1) 61 #[.slice none 0 0]∧∃ i:Nat,i≤L∧q=.int .i64 i) (fun q _=>L-(intOf q).toNat)
 case atStart=>exact ⟨hb1,hQ,hBd,0,Nat.zero_le _,rfl⟩
 case round =>
  clear hb1 hQ hBd;obtain ⟨hbl,hQ,hBd,i,hi,rfl⟩:=hrel
  by_cases hlt:i<L
  · obtain ⟨b,o,A,m,c,l,rfl,hl,hc,hr,q1,q2⟩:=HT.out.at_ hlt
    have hlo:=HP.out.lvl l (Zm hl);obtain rfl:m=n:=by rw [←hr.1];exact hlo.len
    have hcc:=Zc hbl (Zn _) hc;have HTL:=Zh (show ∀ V,Below w.heap.size w V→Calls prog 179 #[.slice A m c] V fun e w'=>∃ g,e=.returned (.tuple #[.slice (some ⟨g,0,none⟩) (Qav l).toNat m,.bool true])∧Below V.heap.size V w' from fun V hV=>(tally_ok A m c l V (hr.below hV) hlo (by omega)).mono (fun e w' ⟨g,h1,_,h3⟩=>⟨g,h1,h3⟩))
    have HR:=Zh hr;have HLO:=Zh hlo;have HLL:=Zh hl;have i1:(0:Int)≤(i:Int):=by omega
    have i2:(i:Int)<(L:Int):=by omega
    clear hr hlo hl hc q1
    by_cases hi0:i=0
    · have e0:¬((i:Int) > 0):=by omega
      have e00:¬(0<i):=by omega
      clear hi0
      go_wp2_with fail
      (refine Qab ?_;intro w2 hw2)
      have hb2:Below wr.heap.size wr w2:=by rw [hw2];exact Qag
      have hX:Blk w2 wr.heap.size 3 #[.int .i64 (i:Int)]:=by rw [hw2];exact Qay
      clear hw2;have hbl2:=Zb hbl hb2;with_reducible refine (HTL.out w2 hbl2).mono ?_
      rintro e w3 ⟨g,rfl,hb3⟩;have hX3:=(hX.below hb3 hX.lt).cell 0;have hQ3:=(hQ.below hb2 hQ.lt).below hb3 (hQ.below hb2 hQ.lt).lt;have hB3:=(hBd.below hb2 hBd.lt).below hb3 (hBd.below hb2 hBd.lt).lt;have z1:=hQ3.lt;have z2:=hB3.lt;have y1:=hQ3.cell 0;have y2:=hB3.cell 0;simp only [Yo,Yn] at hX3 y1 y2;have hbl3:=Zb hbl2 hb3;clear hX hQ hBd hcc hb2 hb3
      go_wp2_with fail
      go_roundw
      case rel=>exact ⟨hbl3,hQ3,hB3,i+1,by omega,by go_num⟩
      case measure=>simp [intOf];omega
    · obtain ⟨j,rfl⟩:∃ j,i=j+1:=⟨i-1,by omega⟩
      obtain ⟨b',o',A',m',c',l',e,hl',hc',hr',q1',q2'⟩:=HT.out.at_ (show j<L by omega)
      cases e
      have hlo':=HP.out.lvl l' (Zm hl');obtain rfl:m'=m:=by rw [←hr'.1];exact hlo'.len
      have hne:=HP.out.nest j l' l hl' HLL.out;have HNS:=Zh (show ∀ V,Below w.heap.size w V→Calls prog 180 #[.slice A' m' c',.slice A m' c] V fun e w'=>e=.returned (.bool true)∧Below V.heap.size V w' from fun V hV=>Qzf A' A m' c' c l' l V (hr'.below hV) (HR.out.below hV) hlo' HLO.out hne (by omega))
      have hcc':=Zc hbl (Zn _) hc';have i3:((j:Int)+1)-1=(j:Int):=by omega
      have i4:(0:Int)≤(j:Int):=by omega
      have i5:(j:Int)<(L:Int):=by omega
      clear hr' hlo' hl' hc' q1' hne hi0
      go_wp2_with fail
      (refine Qab ?_;intro w2 hw2)
      have hb2:Below wr.heap.size wr w2:=by rw [hw2];exact Qag
      have hX:Blk w2 wr.heap.size 3 #[.int .i64 ((j:Int)+1)]:=by rw [hw2];exact Qay
      clear hw2;have hbl2:=Zb hbl hb2;with_reducible refine (HTL.out w2 hbl2).mono ?_
      rintro e w3 ⟨g,rfl,hb3⟩;have hbX3:=hX.below hb3 hX.lt;have hX3:=hbX3.cell 0;have hQ3:=(hQ.below hb2 hQ.lt).below hb3 (hQ.below hb2 hQ.lt).lt;have hB3:=(hBd.below hb2 hBd.lt).below hb3 (hBd.below hb2 hBd.lt).lt;have y1:=hQ3.cell 0;simp only [Yo,Yn] at hX3 y1;have hbl3:=Zb hbl2 hb3;have d1:=Zc hb3 (Zn _) (Zc hb2 (Zn _) hcc);have d2:=Zc hb3 (Zn _) (Zc hb2 (Zn _) hcc');clear hX hQ hBd hcc hb2 hb3 hcc'
      go_wp2_with fail
      with_reducible refine (HNS.out w3 hbl3).mono ?_
      rintro e w4 ⟨rfl,hb4⟩;have hX4:=(hbX3.below hb4 hbX3.lt).cell 0;have hQ4:=hQ3.below hb4 hQ3.lt;have hB4:=hB3.below hb4 hB3.lt;have y2:=hB4.cell 0;simp only [Yo,Yn] at hX4 y2;have hbl4:=Zb hbl3 hb4;clear d1 d2 hX3 y1 hbX3 hQ3 hB3 hb4
      go_wp2_with fail
      go_roundw
      case rel=>exact ⟨hbl4,hQ4,hB4,j+1+1,by omega,by go_num⟩
      case measure=>simp [intOf];omega
  · obtain rfl:L=i:=by omega
    go_wp2_with fail
    go_ret
    exact ⟨rfl,hbl⟩
end Go.Proofs.YtdheeddnkdhfeaaGreatDoor
