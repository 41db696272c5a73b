/- Parts of the proof: ClI, Hp, Hw, Ks. -/
import Derived.Test.YthoagdpakddbdaaGreatDoorD1
import Derived.Test.YthoagdpakddbdaaGreatDoorD4
import Derived.Lib.SliceRun
namespace Go.Proofs.YthoagdpakddbdaaGreatDoor
open Go.RowKit Go.Proofs.Tryz
attribute [local go_sem ↓] Go.wp_at_zero Go.wp_at_succ
set_option maxHeartbeats 1000000 in
theorem Qls (A:Option Addr)(n c:Nat)(xs:List Value)(w:World)(h:Rds w 1 A n xs)(h1:∀ u∈xs,u.oneCell'=true)(hn:n≤1000000000) :
 Calls prog 128 #[.slice A n c] w fun e w'=>∃ A' c',e=.returned (.slice A' n c')∧Own w' w.heap.size 3 1 A' n c' xs∧Below w.heap.size w w':=by
 have q22:∀ (w:World) (a:Option Addr) (n c n' c':Nat),(binOp .eql 93 (.slice a n c) (.slice none n' c')).run prog w=.ok (.bool a.isNone) w:=fun w a n c n' c'=>Lib.run_eql_slice_nil w _ _ a n c n' c' underlying93
 cases A with
 | none =>
  have hl:xs=[]:=by
   cases hl:xs with
   | nil=>rfl
   | cons p t =>
    obtain ⟨b,o,e,_⟩:=h.2 0 p (by rw [hl];rfl)
    cases e
  subst hl;have h0:n=0:=by have:=h.1;simp at this;omega
  subst h0
  go_enter func128,ntmps128
  go_wp2
  go_ret
  exact ⟨none,0,rfl,Own.nil _ _ _ _,Qae⟩
 | some a =>
  have hb1:∀ o,Below w.heap.size w (w.alloc o):=fun o=>(Zr _ _).alloc (Zn _) o
  have hown0:Own (w.alloc (.cells #[] 3)) w.heap.size 3 1 (some ⟨w.heap.size,0,none⟩) 0 0 []:=Own.lit w #[] 0 (Zn _) (by omega) rfl
  go_enter func128,ntmps128
  go_wp2_with (at_builtin;with_reducible refine Qap rfl (.tmp 5) (.tmp 6) 93 rfl 3 _ 1 8 infoClI underlying93 rfl (by omega) (B:=w.heap.size) rfl rfl hown0 (h.below (hb1 _)) h1 (by omega) (by omega) (by simp) ?_)
  intro A' c' w' hown hg _;have hb2:Below w.heap.size w w':=Bel.grownOwn (hb1 _) hg hown0 (by simp)
  try simp only [Nat.zero_add,List.nil_append] at hown
  have HO:=Zh hown;clear hown hg
  go_wp2
  go_ret
  exact ⟨_,_,rfl,HO.out,hb2⟩
end Go.Proofs.YthoagdpakddbdaaGreatDoor
namespace Go.Proofs.YthoagdpakddbdaaGreatDoor
/-! A binary heap, by the costs at its places; plain. -/
def Ord (c:Nat→Int)(len:Nat):Prop:=∀ i,0<i→i<len→c ((i-1) / 2)≤c i
structure UpO (c:Nat→Int) (len p:Nat):Prop where
 o:∀ i,0<i→i<len→i≠p→c ((i-1) / 2)≤c i
 g:∀ i,0<i→i<len→(i-1) / 2=p→0<p→c ((p-1) / 2)≤c i
structure Qhm (c:Nat→Int) (len p:Nat):Prop where
 o:∀ i,0<i→i<len→(i-1) / 2≠p→c ((i-1) / 2)≤c i
 g:∀ i,0<i→i<len→(i-1) / 2=p→0<p→c ((p-1) / 2)≤c i
def Qlj (c:Nat→Int)(i j:Nat):Nat→Int:=fun x=>if x=i then c j else if x=j then c i else c x
theorem Qgv (c:Nat→Int)(i j:Nat):Qlj c i j i=c j:=by simp [Qlj]
theorem Qql (c:Nat→Int)(i j:Nat):Qlj c i j j=c i:=by
 unfold Qlj
 by_cases h:j=i
 · simp [h]
 · simp [h]
theorem Qfr (c:Nat→Int){i j x:Nat}(h:x≠i)(h':x≠j):Qlj c i j x=c x:=by simp [Qlj,h,h']
theorem UpO.done {c:Nat→Int}{len p:Nat}(h:UpO c len p) (hp:p=0∨c ((p-1) / 2)≤c p):Ord c len:=fun i h0 hl=>by
 by_cases e:i=p
 · subst e
   rcases hp with hp|hp
   · omega
   · exact hp
 · exact h.o i h0 hl e
theorem UpO.step {c:Nat→Int}{len p:Nat}(h:UpO c len p)(h0:0<p)(hl:p<len) (hc:c p≤c ((p-1) / 2)):UpO (Qlj c p ((p-1) / 2)) len ((p-1) / 2):=by
 have hq:(p-1) / 2<p:=by omega
 generalize hqe:(p-1) / 2=q at *;refine ⟨fun i hi hil hne=>?_,fun i hi hil hpi hqp=>?_⟩
 · by_cases e1:i=p
   · subst e1
     rw [hqe,Qql,Qgv];exact hc
   · rw [Qfr c e1 hne]
     by_cases e2:(i-1) / 2=p
     · rw [e2,Qgv]
       have:=h.g i hi hil e2 h0;rw [hqe] at this;exact this
     · by_cases e3:(i-1) / 2=q
       · rw [e3,Qql]
         have:=h.o i hi hil e1;rw [e3] at this;omega
       · rw [Qfr c e2 e3]
         exact h.o i hi hil e1
 · have e0:(q-1) / 2≠q:=by omega
   have e0':(q-1) / 2≠p:=by omega
   rw [Qfr c e0' e0];have hgq:=h.o q hqp (by omega) (by omega)
   by_cases e1:i=p
   · subst e1
     rw [Qgv];exact hgq
   · rw [Qfr c e1 (by omega)]
     have:=h.o i hi hil e1;rw [hpi] at this;omega
theorem Qhm.done {c:Nat→Int}{len p:Nat}(h:Qhm c len p) (hp:∀ i,0<i→i<len→(i-1) / 2=p→c p≤c i):Ord c len:=fun i h0 hl=>by
 by_cases e:(i-1) / 2=p
 · rw [e];exact hp i h0 hl e
 · exact h.o i h0 hl e
theorem Qhm.step {c:Nat→Int}{len p m:Nat}(h:Qhm c len p)(h0:0<m)(hl:m<len) (hm:(m-1) / 2=p) (hc:c m≤c p) (ho:∀ i,0<i→i<len→(i-1) / 2=p→c m≤c i):Qhm (Qlj c p m) len m:=by
 have hpm:p<m:=by omega
 refine ⟨fun i hi hil hne=>?_,fun i hi hil hpi _=>?_⟩
 · by_cases e1:i=m
   · subst e1
     rw [hm,Qgv,Qql];exact hc
   · by_cases e2:i=p
     · subst e2
       have e3:(i-1) / 2≠i:=by omega
       rw [Qgv,Qfr c e3 hne];exact h.g m h0 hl hm hi
     · rw [Qfr c e2 e1]
       by_cases e3:(i-1) / 2=p
       · rw [e3,Qgv]
         exact ho i hi hil e3
       · rw [Qfr c e3 hne]
         exact h.o i hi hil e3
 · rw [hm,Qgv,Qfr c (by omega) (by omega)]
   have:=h.o i hi hil (by omega);rw [hpi] at this;exact this
theorem Ord.root {c:Nat→Int}{len:Nat}(h:Ord c len):∀ i,i<len→c 0≤c i:=by
 intro i
 induction i using Nat.strongRecOn with
 | ind i ih =>
  intro hl
  by_cases e:i=0
  · subst e;exact Int.le_refl _
  · have h1:=h i (by omega) hl
    have h2:=ih ((i-1) / 2) (by omega) (by omega);omega
theorem Ord.pop {c c':Nat→Int}{len:Nat} (h:Ord c (len+1)) (hc:∀ i,0<i→i<len→c' i=c i):Qhm c' len 0 :=
 ⟨fun i hi hl hne=>by rw [hc i hi hl,hc _ (by omega) (by omega)];exact h i hi (by omega),fun i hi hl hp h0=>by omega⟩
theorem Ord.push {c c':Nat→Int}{len:Nat}(h:Ord c len)(hc:∀ i,i<len→c' i=c i):UpO c' (len+1) len :=
 ⟨fun i hi hl hne=>by rw [hc i (by omega),hc _ (by omega)];exact h i hi (by omega),fun i hi hl hp h0=>by omega⟩
theorem Ord.lower {c c':Nat→Int}{len p:Nat}(h:Ord c len)(hc:∀ i,i<len→i≠p→c' i=c i)(hp:c' p≤c p)(hl:p<len):UpO c' len p :=
 ⟨fun i hi hil hne=>by
  rw [hc i hil hne]
  by_cases e:(i-1) / 2=p
  · have:=h i hi hil;rw [e] at this ⊢;omega
  · rw [hc _ (by omega) e];exact h i hi hil,fun i hi hil hpi h0=>by
  have h1:=h i hi hil;have h2:=h p h0 hl;rw [hpi] at h1;rw [hc i hil (by omega),hc _ (by omega) (by omega)];omega⟩
structure HpS (n:Nat) (r:List Nat) (cs:List Int) (st:List Nat):Prop where
 lc:cs.length=n
 ls:st.length=n
 seat:∀ i k,r[i]?=some k→k<n∧st[k]?=some (i+1)
 none_:∀ k i,st[k]?=some (i+1)→r[i]?=some k
def at_ (r:List Nat)(cs:List Int)(i:Nat):Int:=cs.getD (r.getD i 0) 0
theorem HpS.nodup {n:Nat}{r:List Nat}{cs:List Int}{st:List Nat}(h:HpS n r cs st){i j k:Nat} (hi:r[i]?=some k) (hj:r[j]?=some k):i=j:=by
 have h1:=(h.seat i k hi).2;have h2:=(h.seat j k hj).2;rw [h1] at h2
 injection h2 with h2
 omega
def Qdr (r:List Nat)(i j:Nat):List Nat:=(r.set i (r.getD j 0)).set j (r.getD i 0)
theorem Qcf {α:Type}{l:List α}{i:Nat}{x d:α} (h:l[i]?=some x):l.getD i d=x:=by rw [List.getD_eq_getElem?_getD,h];rfl
theorem Qbe {α:Type}{l:List α}{i:Nat}(d:α)(h:i<l.length):l[i]?=some (l.getD i d):=by rw [List.getD_eq_getElem?_getD,Zg h];rfl
theorem Qdl {r:List Nat}{i j x:Nat}(hi:i<r.length)(hj:j<r.length):(Qdr r i j)[x]?=if x=j then r[i]? else if x=i then r[j]? else r[x]?:=by
 unfold Qdr
 by_cases e:x=j
 · subst e
   rw [List.getElem?_set_self (by rw [List.length_set];exact hj),if_pos rfl,Qbe 0 hi]
 · rw [if_neg e,List.getElem?_set_ne (fun h=>e h.symm)]
   by_cases e2:x=i
   · subst e2
     rw [List.getElem?_set_self hi,if_pos rfl,Qbe 0 hj]
   · rw [if_neg e2,List.getElem?_set_ne (fun h=>e2 h.symm)]
def Qit (r st:List Nat)(i j:Nat):List Nat:=(st.set (r.getD j 0) (i+1)).set (r.getD i 0) (j+1)
theorem HpS.swap {n:Nat}{r:List Nat}{cs:List Int}{st:List Nat}(h:HpS n r cs st){i j:Nat}(hi:i<r.length)(hj:j<r.length):HpS n (Qdr r i j) cs (Qit r st i j):=by
 have ri:=Qbe 0 hi;have rj:=Qbe 0 hj;generalize hki:r.getD i 0=ki at *;generalize hkj:r.getD j 0=kj at *;have si:=h.seat i ki ri;have sj:=h.seat j kj rj
 have sget:∀ x,(Qit r st i j)[x]?=if x=ki then (if ki<st.length then some (j+1) else none) else if x=kj then (if kj<st.length then some (i+1) else none) else st[x]?:=fun x=>by
  unfold Qit;rw [hki,hkj]
  by_cases e:x=ki
  · subst e
    rw [if_pos rfl,List.getElem?_set];simp
  · rw [if_neg e,List.getElem?_set_ne (fun h=>e h.symm)]
    by_cases e2:x=kj
    · subst e2
      rw [if_pos rfl,List.getElem?_set];simp
    · rw [if_neg e2,List.getElem?_set_ne (fun h=>e2 h.symm)]
 refine ⟨h.lc,by unfold Qit;rw [List.length_set,List.length_set];exact h.ls,fun x k hx=>?_,fun k x hk=>?_⟩
 · rw [Qdl hi hj] at hx
   rw [sget]
   by_cases e:x=j
   · subst e
     rw [if_pos rfl,ri] at hx
     cases hx
     exact ⟨si.1,by rw [if_pos rfl,if_pos (by rw [h.ls];exact si.1)]⟩
   · rw [if_neg e] at hx
     by_cases e2:x=i
     · subst e2
       rw [if_pos rfl,rj] at hx
       cases hx
       have hne:kj≠ki:=fun e3=>e (by rw [e3] at rj;exact h.nodup ri rj)
       exact ⟨sj.1,by rw [if_neg hne,if_pos rfl,if_pos (by rw [h.ls];exact sj.1)]⟩
     · rw [if_neg e2] at hx
       have hs:=h.seat x k hx;exact ⟨hs.1,by rw [if_neg (fun e3=>e2 (by rw [e3] at hx;exact h.nodup hx ri)),if_neg (fun e3=>e (by rw [e3] at hx;exact h.nodup hx rj))];exact hs.2⟩
 · rw [sget] at hk
   rw [Qdl hi hj]
   by_cases e:k=ki
   · subst e
     rw [if_pos rfl,if_pos (by rw [h.ls];exact si.1)] at hk;have:x=j:=by injection hk with hk;omega
     rw [if_pos this];exact ri
   · rw [if_neg e] at hk
     by_cases e2:k=kj
     · subst e2
       rw [if_pos rfl,if_pos (by rw [h.ls];exact sj.1)] at hk;have:x=i:=by injection hk with hk;omega
       by_cases e3:x=j
       · exact absurd (by rw [←this,e3] at ri;rw [ri] at rj;exact (Option.some.inj rj).symm) e
       · rw [if_neg e3,if_pos this]
         exact rj
     · rw [if_neg e2] at hk
       have hr:=h.none_ k x hk;rw [if_neg (fun e3=>e2 (by rw [e3,rj] at hr;exact (Option.some.inj hr).symm)),if_neg (fun e3=>e (by rw [e3,ri] at hr;exact (Option.some.inj hr).symm))];exact hr
theorem Qwe {r:List Nat}{cs:List Int}{i j:Nat}(hi:i<r.length)(hj:j<r.length)(x:Nat)(hx:x<r.length):at_ (Qdr r i j) cs x=Qlj (at_ r cs) i j x:=by
 unfold at_ Qlj;have hg:=Qdl (x:=x) hi hj
 by_cases e:x=j
 · subst e
   rw [if_pos rfl] at hg;rw [Qcf (hg.trans (Qbe 0 hi))]
   by_cases e2:x=i
   · subst e2;simp
   · simp [e2]
 · rw [if_neg e] at hg
   by_cases e2:x=i
   · subst e2
     rw [if_pos rfl] at hg;rw [Qcf (hg.trans (Qbe 0 hj))];simp
   · rw [if_neg e2] at hg
     rw [Qcf (hg.trans (Qbe 0 hx))];simp [e,e2]
theorem Qer (r:List Nat)(i j:Nat):(Qdr r i j).length=r.length:=by simp [Qdr]
end Go.Proofs.YthoagdpakddbdaaGreatDoor
namespace Go.Proofs.YthoagdpakddbdaaGreatDoor
open Go.RowKit Go.Proofs.Tryz
structure Aft (G:Nat→Prop) (W W':World):Prop where
 kept:Qaz G W W'
 size:W.heap.size≤W'.heap.size
 bel:∀ B,(∀ b,b<B→G b)→Below B W W'
theorem Aft.refl (G:Nat→Prop)(W:World):Aft G W W:=⟨Qaz.refl _ _,Zn _,fun _ _=>Zr _ _⟩
theorem Aft.trans {G:Nat→Prop}{a b c:World}(h:Aft G a b)(k:Aft G b c):Aft G a c:=⟨h.kept.trans k.kept h.size,Nat.le_trans h.size k.size,fun B hB=>(h.bel B hB).trans (k.bel B hB)⟩
theorem Aft.drew {G:Nat→Prop}{a b:World}(h:Aft G a b):Aft G a b.drew:=⟨h.kept,h.size,fun B hB=>(h.bel B hB).drew⟩
theorem Aft.set {G:Nat→Prop}{a b:World}{g i:Nat}(h:Aft G a b)(hg:¬G g)(v:Value):Aft G a (b.setCell ⟨g,i,none⟩ v) :=
 ⟨h.kept.trans (Qaz.set _ _ _ _ hg) h.size,by simpa [World.setCell] using h.size,fun B hB=>(h.bel B hB).setCell (Nat.le_of_not_lt fun hl=>hg (hB g hl)) v⟩
theorem Aft.below {G:Nat→Prop}{W W':World}(h:Below W.heap.size W W')(hG:∀ b,G b→b<W.heap.size):Aft G W W' :=
 ⟨Qaz.below h,h.size,fun B hB=>by
  refine h.mono ?_
  rcases Nat.lt_or_ge W.heap.size B with hl|hl
  · exact absurd (hG _ (hB _ hl)) (by omega)
  · exact hl⟩
def nis (l:List Nat):List Int:=l.map (fun (k:Nat)=>(k:Int))
theorem Qei (l:List Nat):(nis l).length=l.length:=by simp [nis]
theorem Qfl {l:List Nat}{i k:Nat} (h:l[i]?=some k):(nis l)[i]?=some (k:Int):=by simp [nis,h]
theorem Qxe (l:List Nat)(i k:Nat):(nis l).set i (k:Int)=nis (l.set i k):=by simp [nis,List.map_set]
theorem Qmm (l m:List Nat):nis (l ++m)=nis l ++nis m:=by simp [nis]
theorem Qmb {l:List Int}{i:Nat}{x:Int} (h:l[i]?=some x):(Qad l)[i]?=some (.int .i64 x):=by simp [Qad,h]
theorem Qtr (l:List Int)(k:Nat)(x:Int):(Qad l).set k (.int .i64 x)=Qad (l.set k x):=by simp [Qad,List.map_set]
theorem Own.putAt {W:World}{B n c k s g o:Nat}{e:TypeId}{xs:List Value} (h:Own W B e s (some ⟨g,o,none⟩) n c xs) (v:Value):Own (W.setCell ⟨g,o+k,none⟩ v) B e s (some ⟨g,o,none⟩) n c (xs.set k v):=by
 refine ⟨by rw [List.length_set];exact h.1,?_⟩
 rcases h.2 with ⟨h',_⟩|⟨g',cap',cur,h1,h2,h3,h4,h5,h6,h7⟩
 · cases h'
 · cases h1
   refine Or.inr ⟨g,c,cur.setIfInBounds (0+k) v,rfl,h2,(show Blk W g e cur from h3).set_ (0+k) _,h4,h5,by simpa using h6,?_⟩
   rw [Array.toList_setIfInBounds,List.take_set,h7,Nat.zero_add]
theorem Own.front_ {w:World}{B s n n' c:Nat}{e:TypeId}{A:Option Addr}{xs xs':List Value}(h:Own w B e s A n c xs)(hn:n'≤n) (hx:xs.take (n'*s)=xs'):Own w B e s A n' c xs':=by
 subst hx;refine ⟨by rw [List.length_take,h.1,Nat.min_eq_left (Nat.mul_le_mul_right s hn)],?_⟩
 rcases h.2 with ⟨h',h0⟩|⟨g',cap',cur,h1,h2,h3,h4,h5,h6,h7⟩
 · cases h'
   obtain rfl:n'=0:=by omega
   exact .inl ⟨rfl,rfl⟩
 · cases h1
   refine .inr ⟨g',c,cur,rfl,h2,h3,by omega,h5,h6,?_⟩;rw [←h7,List.take_take,Nat.min_eq_left (Nat.mul_le_mul_right s hn)]
structure Qax (W:World) (G:Nat→Prop) (g:Nat) (A:Option Addr) (gc gs n m c:Nat) (R:List Nat) (C:List Int) (S:List Nat):Prop where
 blk:Blk W g 269 #[.slice A m c,.slice (some ⟨gc,0,none⟩) n n,.slice (some ⟨gs,0,none⟩) n n]
 row:Own W 0 3 1 A m c (Qad (nis R))
 cs:Blk W gc 2 (Qcm C)
 ss:Blk W gs 3 (Qcm (nis S))
 dA:∀ b,Qab A=some b→b≠g∧b≠gc∧b≠gs∧¬G b
 dg:g≠gc∧g≠gs∧gc≠gs
 dG:¬G g∧¬G gc∧¬G gs
 lt:∀ b,G b→b<W.heap.size
 lr:R.length=m
 lc:C.length=n
 ls:S.length=n
 n0:n≤16384
section
variable {W W':World} {G:Nat→Prop} {g gc gs n m c:Nat} {A:Option Addr} {R:List Nat} {C:List Int} {S:List Nat}
theorem Qax.drew (h:Qax W G g A gc gs n m c R C S):Qax W.drew G g A gc gs n m c R C S:=⟨h.blk,h.row,h.cs,h.ss,h.dA,h.dg,h.dG,h.lt,h.lr,h.lc,h.ls,h.n0⟩
theorem Qax.setR {gr i k:Nat} (h:Qax W G g (some ⟨gr,0,none⟩) gc gs n m c R C S):Qax (W.setCell ⟨gr,i,none⟩ (.int .i64 (k:Int))) G g (some ⟨gr,0,none⟩) gc gs n m c (R.set i k) C S:=by
 obtain ⟨d1,d2,d3,d4⟩:=h.dA gr rfl;have h1:=h.row.putAt (k:=i) (.int .i64 (k:Int));rw [Nat.zero_add,Qtr,Qxe] at h1;exact ⟨h.blk.far_ (fun e=>d1 e.symm) _,h1,h.cs.far_ (fun e=>d2 e.symm) _,h.ss.far_ (fun e=>d3 e.symm) _,h.dA,h.dg,h.dG,fun b hb=>by simpa [World.setCell] using h.lt b hb,by rw [List.length_set];exact h.lr,h.lc,h.ls,h.n0⟩
theorem Qax.setC {i:Nat}{x:Int}(h:Qax W G g A gc gs n m c R C S):Qax (W.setCell ⟨gc,i,none⟩ (.int .i64 x)) G g A gc gs n m c R (C.set i x) S :=
 ⟨h.blk.far_ h.dg.1 _,h.row.far (Qaa _ _ _ _) (.inr fun e=>(h.dA gc e).2.1 rfl),h.cs.setI rfl,h.ss.far_ (fun e=>h.dg.2.2 e.symm) _,h.dA,h.dg,h.dG,fun b hb=>by simpa [World.setCell] using h.lt b hb,h.lr,by rw [List.length_set];exact h.lc,h.ls,h.n0⟩
theorem Qax.setS {i k:Nat}(h:Qax W G g A gc gs n m c R C S):Qax (W.setCell ⟨gs,i,none⟩ (.int .i64 (k:Int))) G g A gc gs n m c R C (S.set i k) :=
 ⟨h.blk.far_ h.dg.2.1 _,h.row.far (Qaa _ _ _ _) (.inr fun e=>(h.dA gs e).2.2.1 rfl),h.cs.far_ h.dg.2.2 _,h.ss.setI (Qxe _ _ _),h.dA,h.dg,h.dG,fun b hb=>by simpa [World.setCell] using h.lt b hb,h.lr,h.lc,by rw [List.length_set];exact h.ls,h.n0⟩
theorem Qax.keep (h:Qax W G g A gc gs n m c R C S)(hz:Below W.heap.size W W'):Qax W' G g A gc gs n m c R C S :=
 ⟨h.blk.below hz h.blk.lt,h.row.below hz,h.cs.below hz h.cs.lt,h.ss.below hz h.ss.lt,h.dA,h.dg,h.dG,fun b hb=>Nat.lt_of_lt_of_le (h.lt b hb) hz.size,h.lr,h.lc,h.ls,h.n0⟩
theorem Qax.more {G':Nat→Prop}(h:Qax W G g A gc gs n m c R C S)(hb:Below W.heap.size W W') (hG:∀ b,G' b→b<W'.heap.size∧(G b∨W.heap.size≤b)):Qax W' G' g A gc gs n m c R C S:=by
 have ho:∀ b,b<W.heap.size→¬G b→¬G' b:=fun b h1 h2 h3=>(hG b h3).2.elim h2 (fun h4=>by omega)
 have k:=h.keep hb;exact ⟨k.blk,k.row,k.cs,k.ss,fun b hb'=>⟨(h.dA b hb').1,(h.dA b hb').2.1,(h.dA b hb').2.2.1,ho b (h.row.lt b hb').2 (h.dA b hb').2.2.2⟩,h.dg,⟨ho _ h.blk.lt h.dG.1,ho _ h.cs.lt h.dG.2.1,ho _ h.ss.lt h.dG.2.2⟩,fun b hb'=>(hG b hb').1,h.lr,h.lc,h.ls,h.n0⟩
theorem Qax.f0 (h:Qax W G g A gc gs n m c R C S):W.cell? ⟨g,0,none⟩=some (.slice A m c):=Zq h.blk
theorem Qax.f1 (h:Qax W G g A gc gs n m c R C S):W.cell? ⟨g,1,none⟩=some (.slice (some ⟨gc,0,none⟩) n n):=Zq h.blk
theorem Qax.f2 (h:Qax W G g A gc gs n m c R C S):W.cell? ⟨g,2,none⟩=some (.slice (some ⟨gs,0,none⟩) n n):=Zq h.blk
theorem Qax.rowAt {gr i k:Nat} (h:Qax W G g (some ⟨gr,0,none⟩) gc gs n m c R C S) (hk:R[i]?=some k):W.cell? ⟨gr,i,none⟩=some (.int .i64 (k:Int)):=by
 obtain ⟨b,o,e,hc⟩:=h.row.rds.2 i _ (Qmb (Qfl hk))
 cases e
 rwa [Nat.zero_add] at hc
theorem Qax.costAt {i:Nat}{x:Int}(h:Qax W G g A gc gs n m c R C S) (hk:C[i]?=some x):W.cell? ⟨gc,i,none⟩=some (.int .i64 x):=h.cs.cellI hk
theorem Qax.seatAt {i k:Nat}(h:Qax W G g A gc gs n m c R C S) (hk:S[i]?=some k):W.cell? ⟨gs,i,none⟩=some (.int .i64 (k:Int)):=h.ss.cellI (Qfl hk)
theorem Qax.rowBlk (h:Qax W G g A gc gs n m c R C S)(hm:0<m):∃ gr,A=some ⟨gr,0,none⟩∧W.frozen? ⟨gr,0,none⟩=false:=by
 obtain ⟨gr,cur,e,_,hb,_⟩:=h.row.block hm;exact ⟨gr,e,hb.frozen 0⟩
theorem Qax.fzR {gr i:Nat} (h:Qax W G g (some ⟨gr,0,none⟩) gc gs n m c R C S):W.frozen? ⟨gr,i,none⟩=false:=(h.row.warm gr rfl).2 i
theorem Qax.cap (h:Qax W G g A gc gs n m c R C S):m≤c∧c≤9223372036854775807:=⟨h.row.cap,h.row.capMax⟩
end
section
variable {P:Program} {ops:Array Oper} {Q:Exit→Act→World→Prop} {md:Region.Mode} {S:World→Prop} {k:Nat}
def Qdc (P:Program)(md:Region.Mode)(ops:Array Oper)(Q:Exit→Act→World→Prop)(S:World→Prop)(k:Nat):Nat→Array Bool→Act→World→Prop
 | 0,listed,a,w=>Region.ready md ops listed=[]∧Q .normal a w
 | fuel+1,listed,a,w =>
  (Region.ready md ops listed=[]→Q .normal a w) ∧
  ∀ i∈Region.ready md ops listed,wpOp P ops Q i (fun a' w'=>if i=k then wpAny P md ops Q fuel (listed.setIfInBounds i true) a' w' else S w'∧Qdc P md ops Q S k fuel (listed.setIfInBounds i true) a' w') a w
theorem Qlm:∀ (fuel:Nat)(listed:Array Bool)(a:Act)(w:World),Qdc P md ops Q S k fuel listed a w→wpAny P md ops Q fuel listed a w
 | 0,_,_,_,h=>h
 | fuel+1,_,_,_,h=>⟨h.1,fun i hi=>wpOp_mono (fun a' w' h'=>by
  by_cases e:i=k
  · rw [if_pos e] at h';exact h'
  · rw [if_neg e] at h';exact Qlm fuel _ a' w' h'.2) (h.2 i hi)⟩
def Qfa (md:Region.Mode)(ops:Array Oper)(k i:Nat):Bool:=(ops[k]?).elim false fun o=>o.after.any fun e=>Region.binds md e && e.on == i
theorem Qks {i:Nat}{listed:Array Bool}(h:Qfa md ops k i=true)(hi:i∈Region.ready md ops listed):k ∉ Region.ready md ops listed:=by
 intro hk;obtain ⟨_,o,ho,hall⟩:=mem_ready.1 hk;unfold Qfa at h;rw [ho] at h;simp only [Option.elim,Array.any_eq_true',Bool.and_eq_true,beq_iff_eq] at h;obtain ⟨e,he,hb,hon⟩:=h;have h1:=hall e he hb;have h0:=(mem_ready.1 hi).1;rw [hon] at h1;simp only [Array.getD_eq_getD_getElem?] at h0 h1
 cases hx:listed[i]? with
 | none=>rw [hx] at h0;cases h0
 | some b=>rw [hx] at h0 h1;simp at h0 h1;rw [h0] at h1;cases h1
theorem Qpb {i:Nat}{oi:Oper}{v:Value} (hi:ops[i]?=some oi) (hsel:∀ (j:Nat) (o:Oper) cs b,ops[j]?=some o→o.op≠.select cs b)
 (hQ:∀ c a w,Q (.panic c) (a.put oi.dst v) w→Q (.panic c) a w) (hwk:Qfa md ops k i=true) (hik:i≠k) :
 ∀ (fuel:Nat) (listed:Array Bool) (a:Act) (w:World),
  (∀ j oj,ops[j]?=some oj→j≠i→listed.getD j true=false→(∀ e∈oj.after,Region.binds md e=true→e.on≠i)→oi.apart ops oj=true) →
  i∈Region.ready md ops listed→YieldsIf P ops S oi v a→S w →
  Qdc P md ops Q S k fuel (listed.setIfInBounds i true) (a.put oi.dst v) w→Qdc P md ops Q S k (fuel+1) listed a w:=by
 intro fuel
 induction fuel with
 | zero =>
  intro listed a w _ hr hy hS H;refine ⟨fun h=>(by rw [h] at hr;cases hr),fun j hj=>?_⟩
  by_cases hji:j=i
  · subst hji
    refine hy.wpOp hi hS ?_;rw [if_neg hik];exact ⟨hS,H⟩
  · have:=ready_mono hj hji
    rw [H.1] at this
    cases this
 | succ fuel ih =>
  intro listed a w hfree hr hy hS H;refine ⟨fun h=>(by rw [h] at hr;cases hr),fun j hj=>?_⟩
  by_cases hji:j=i
  · subst hji
    refine hy.wpOp hi hS ?_;rw [if_neg hik];exact ⟨hS,H⟩
  · have hjk:j≠k:=fun e=>Qks hwk hr (e▸hj)
    have h1:=H.2 j (ready_mono hj hji);obtain ⟨hjun,oj,hoj,hall⟩:=mem_ready.1 hj
    have hnot:∀ e∈oj.after,Region.binds md e=true→e.on≠i:=fun e he hb heq=>by
     refine Qks (k:=j) (i:=i) ?_ hr hj;unfold Qfa;rw [hoj];simp only [Option.elim,Array.any_eq_true',Bool.and_eq_true,beq_iff_eq];exact ⟨e,he,hb,heq⟩
    have h2:=wpOp_putIf hoj (hfree j oj hoj hji hjun hnot) (fun cs b=>hsel i oi cs b hi) (fun cs b=>hsel j oj cs b hoj) hQ hy h1
    have hfree':∀ q oq,ops[q]?=some oq→q≠i→(listed.setIfInBounds j true).getD q true=false →
     (∀ e∈oq.after,Region.binds md e=true→e.on≠i)→oi.apart ops oq=true:=fun q oq hq hqi hun hno=>by
     refine hfree q oq hq hqi ?_ hno
     by_cases hjq:j=q
     · subst hjq;exact hjun
     · rw [getD_set_ne true hjq] at hun;exact hun
    refine wpOp_mono (fun a' w' h3=>?_) h2;rw [if_neg hjk] at h3 ⊢;refine ⟨h3.2.1,ih (listed.setIfInBounds j true) a' w' hfree' (ready_mono hr (Ne.symm hji)) h3.1 h3.2.1 ?_⟩;rw [Array.setIfInBounds_comm _ _ hji];exact h3.2.2
theorem takeK_ {i:Nat}{oi:Oper}{d:Option Tmp}{v:Value}{fuel:Nat}{listed:Array Bool}{a:Act}{w:World} (hi:ops[i]?=some oi) (hd:oi.dst=d)
 (hwk:Qfa md ops k i=true) (hik:(i == k)=false) (hs:Region.noSelect ops=true) (hf:Region.free md ops listed i=true) (hr:(Region.ready md ops listed).contains i=true)
 (hQ:∀ c a w,Q (.panic c) (a.put oi.dst v) w→Q (.panic c) a w) (hw:Region.wanted oi (yielded ops a.tmps)=true) (hy:∀ w,S w→(execOp a.eval oi).run P w=.ok (.value v) w) (hS:S w)
 (h:Qdc P md ops Q S k fuel (listed.setIfInBounds i true) (a.put d v) w):Qdc P md ops Q S k (fuel+1) listed a w:=by
 subst hd;exact Qpb hi (Region.noSelect_spec hs) hQ hwk (by simpa using hik) fuel listed a w (Region.free_spec hi hf) (by simpa using hr) (Or.inl ⟨hw,hy⟩) hS h
theorem Qqp {i:Nat}{oi:Oper}{v:Value} (hi:ops[i]?=some oi) (hsel:∀ (j:Nat) (o:Oper) cs b,ops[j]?=some o→o.op≠.select cs b)
 (hQ:∀ c a w,Q (.panic c) (a.put oi.dst v) w→Q (.panic c) a w) (hik:i≠k) :
 ∀ (fuel:Nat) (listed:Array Bool) (a:Act) (w:World),
  (∀ j oj,ops[j]?=some oj→j≠i→listed.getD j true=false→(∀ e∈oj.after,Region.binds md e=true→e.on≠i)→oi.apart ops oj=true) →
  i∈Region.ready md ops listed→YieldsIf P ops (fun _=>True) oi v a→S w →
  Qdc P md ops Q S k fuel (listed.setIfInBounds i true) (a.put oi.dst v) w→Qdc P md ops Q S k (fuel+1) listed a w:=by
 intro fuel
 induction fuel with
 | zero =>
  intro listed a w _ hr hy hS H;refine ⟨fun h=>(by rw [h] at hr;cases hr),fun j hj=>?_⟩
  by_cases hji:j=i
  · subst hji
    refine hy.wpOp hi trivial ?_;rw [if_neg hik];exact ⟨hS,H⟩
  · have:=ready_mono hj hji
    rw [H.1] at this
    cases this
 | succ fuel ih =>
  intro listed a w hfree hr hy hS H;refine ⟨fun h=>(by rw [h] at hr;cases hr),fun j hj=>?_⟩
  by_cases hji:j=i
  · subst hji
    refine hy.wpOp hi trivial ?_;rw [if_neg hik];exact ⟨hS,H⟩
  · have h1:=H.2 j (ready_mono hj hji)
    obtain ⟨hjun,oj,hoj,hall⟩:=mem_ready.1 hj
    have hnot:∀ e∈oj.after,Region.binds md e=true→e.on≠i:=fun e he hb heq=>by
     refine Qks (k:=j) (i:=i) ?_ hr hj;unfold Qfa;rw [hoj];simp only [Option.elim,Array.any_eq_true',Bool.and_eq_true,beq_iff_eq];exact ⟨e,he,hb,heq⟩
    have h2:=wpOp_putIf hoj (hfree j oj hoj hji hjun hnot) (fun cs b=>hsel i oi cs b hi) (fun cs b=>hsel j oj cs b hoj) hQ hy h1
    have hfree':∀ q oq,ops[q]?=some oq→q≠i→(listed.setIfInBounds j true).getD q true=false →
     (∀ e∈oq.after,Region.binds md e=true→e.on≠i)→oi.apart ops oq=true:=fun q oq hq hqi hun hno=>by
     refine hfree q oq hq hqi ?_ hno
     by_cases hjq:j=q
     · subst hjq;exact hjun
     · rw [getD_set_ne true hjq] at hun;exact hun
    refine wpOp_mono (fun a' w' h3=>?_) h2
    by_cases hjk:j=k
    · rw [if_pos hjk] at h3 ⊢
      refine wpAny_first hi hsel hQ fuel (listed.setIfInBounds j true) a' w' hfree' (ready_mono hr (Ne.symm hji)) (h3.1.imp (fun ⟨ha,hb⟩=>⟨ha,fun w=>hb w trivial⟩) id) ?_;rw [Array.setIfInBounds_comm _ _ hji];exact h3.2
    · rw [if_neg hjk] at h3 ⊢
      refine ⟨h3.2.1,ih (listed.setIfInBounds j true) a' w' hfree' (ready_mono hr (Ne.symm hji)) h3.1 h3.2.1 ?_⟩;rw [Array.setIfInBounds_comm _ _ hji];exact h3.2.2
theorem takeF_ {i:Nat}{oi:Oper}{d:Option Tmp}{v:Value}{fuel:Nat}{listed:Array Bool}{a:Act}{w:World} (hi:ops[i]?=some oi) (hd:oi.dst=d)
 (hik:(i == k)=false) (hs:Region.noSelect ops=true) (hf:Region.free md ops listed i=true) (hr:(Region.ready md ops listed).contains i=true)
 (hQ:∀ c a w,Q (.panic c) (a.put oi.dst v) w→Q (.panic c) a w) (hw:Region.wanted oi (yielded ops a.tmps)=true) (hy:∀ w,True→(execOp a.eval oi).run P w=.ok (.value v) w) (hS:S w)
 (h:Qdc P md ops Q S k fuel (listed.setIfInBounds i true) (a.put d v) w):Qdc P md ops Q S k (fuel+1) listed a w:=by
 subst hd;exact Qqp hi (Region.noSelect_spec hs) hQ (by simpa using hik) fuel listed a w (Region.free_spec hi hf) (by simpa using hr) (Or.inl ⟨hw,hy⟩) hS h
theorem tkK (i d:Nat){oi:Oper}{fuel:Nat}{listed:Array Bool}{a:Act}{w:World} (hi:ops[i]?=some oi:=by rfl) (hd:oi.dst=some d:=by rfl) (hwk:Qfa md ops k i=true:=by kernel_rfl) (hik:(i == k)=false:=by rfl) (hs:Region.noSelect ops=true:=by kernel_rfl)
 (hf:Region.free md ops listed i=true:=by kernel_rfl) (hr:(Region.ready md ops listed).contains i=true:=by kernel_rfl) (hQ:∀ c a w v,Q (.panic c) (a.put oi.dst v) w→Q (.panic c) a w:=by exact fun _ _ _ _ h=>h) (hw:Region.wanted oi (yielded ops a.tmps)=true:=by rfl) (hS:S w:=by first|rfl|trivial|assumption)
 (h:∃ v,(∀ w,S w→(execOp a.eval oi).run P w=.ok (.value v) w)∧Qdc P md ops Q S k fuel (listed.setIfInBounds i true) (a.put (some d) v) w):Qdc P md ops Q S k (fuel+1) listed a w:=by
 obtain ⟨v,h1,h2⟩:=h;exact takeK_ (i:=i) (d:=some d) (v:=v) hi hd hwk hik hs hf hr (fun c a w=>hQ c a w v) hw h1 hS h2
theorem tkF (i d:Nat){oi:Oper}{fuel:Nat}{listed:Array Bool}{a:Act}{w:World} (hi:ops[i]?=some oi:=by rfl) (hd:oi.dst=some d:=by rfl) (hik:(i == k)=false:=by rfl) (hs:Region.noSelect ops=true:=by kernel_rfl)
 (hf:Region.free md ops listed i=true:=by kernel_rfl) (hr:(Region.ready md ops listed).contains i=true:=by kernel_rfl) (hQ:∀ c a w v,Q (.panic c) (a.put oi.dst v) w→Q (.panic c) a w:=by exact fun _ _ _ _ h=>h) (hw:Region.wanted oi (yielded ops a.tmps)=true:=by rfl) (hS:S w:=by first|rfl|trivial|assumption)
 (h:∃ v,(∀ w,True→(execOp a.eval oi).run P w=.ok (.value v) w)∧Qdc P md ops Q S k fuel (listed.setIfInBounds i true) (a.put (some d) v) w):Qdc P md ops Q S k (fuel+1) listed a w:=by
 obtain ⟨v,h1,h2⟩:=h;exact takeF_ (i:=i) (d:=some d) (v:=v) hi hd hik hs hf hr (fun c a w=>hQ c a w v) hw h1 hS h2
theorem Qce {o:Oper}{fuel:Nat}{listed:Array Bool}{a:Act}{w:World} (hr:Region.ready md ops listed=[k]) (ho:ops[k]?=some o)
 (h:∀ K':Act→World→Prop,Shut (∀ a w,wpAny P md ops Q fuel (listed.setIfInBounds k true) a w→K' a w)→if Region.wanted o (yielded ops a.tmps)=true then Oper.wp P o a w K' Q else K' (a.put o.dst undef) w) :
 Qdc P md ops Q S k (fuel+1) listed a w:=by
 refine ⟨fun h0=>(by rw [hr] at h0;cases h0),fun j hj=>?_⟩
 rw [hr] at hj;obtain rfl:j=k:=by simpa using hj
 refine wpOp_step ho (fun K' hK=>h K' (fun a w hW=>hK a w ?_));rw [if_pos rfl];exact hW
theorem Qbh {i:Nat}{o:Oper}{fuel:Nat}{listed:Array Bool}{a:Act}{w:World} (hr:Region.ready md ops listed=[i]) (hik:(i == k)=false) (ho:ops[i]?=some o)
 (h:∀ K':Act→World→Prop,Shut (∀ a w,S w→(S w→Qdc P md ops Q S k fuel (listed.setIfInBounds i true) a w)→K' a w)→if Region.wanted o (yielded ops a.tmps)=true then Oper.wp P o a w K' Q else K' (a.put o.dst undef) w) :
 Qdc P md ops Q S k (fuel+1) listed a w:=by
 refine ⟨fun h0=>(by rw [hr] at h0;cases h0),fun j hj=>?_⟩
 rw [hr] at hj;obtain rfl:j=i:=by simpa using hj
 refine wpOp_step ho (fun K' hK=>h K' (fun a w hS hW=>hK a w ?_));rw [if_neg (by simpa using hik)];exact ⟨hS,hW hS⟩
theorem Qbz {listed:Array Bool}{a:Act}{w:World} (hr:Region.ready md ops listed=[]) (h:Q .normal a w):∀ fuel,wpAny P md ops Q fuel listed a w
 | 0=>⟨hr,h⟩
 | _+1=>⟨fun _=>h,by rw [hr];simp⟩
theorem Qbj (k:Nat){id:Nat}{a:Act}{w:World}(hm:P.follows .mixedOrders=true)(hS:S w.drew)
 (h:S w.drew→Qdc P .any ops Q S k ops.size (Array.replicate ops.size false) a w.drew):(Code.region id ops true).wp P Q a w :=
 wp_region_any hm (Qlm _ _ _ _ (h hS))
end
end Go.Proofs.YthoagdpakddbdaaGreatDoor
