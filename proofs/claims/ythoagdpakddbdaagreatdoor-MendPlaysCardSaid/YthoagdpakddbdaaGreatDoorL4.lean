/- Parts of the proof: Ks, Hx, Hq, Hy, Hs, Hz. -/
import Derived.Test.YthoagdpakddbdaaGreatDoorL3
namespace Go.Proofs.YthoagdpakddbdaaGreatDoor
open Go.RowKit Go.Proofs.Tryz
section
variable {P:Program} {ops:Array Oper} {Q:Exit→Act→World→Prop} {md:Region.Mode} {S:World→Prop} {k:Nat}
def Qcy (P:Program)(md:Region.Mode)(ops:Array Oper)(Q:Exit→Act→World→Prop)(S:World→Prop)(k:Nat):Nat→Array Bool→Act→World→Prop
 | 0,listed,a,w=>Region.ready md ops listed=[]∧Q .normal a w
 | fuel+1,listed,a,w =>
  (Region.ready md ops listed=[]→Q .normal a w) ∧
  ∀ i∈Region.ready md ops listed,wpOp P ops Q i (fun a' w'=>if i=k then wpAny P md ops Q fuel (listed.setIfInBounds i true) a' w' else S w'∧Qcy P md ops Q S k fuel (listed.setIfInBounds i true) a' w') a w
theorem Qmh:∀ (fuel:Nat)(listed:Array Bool)(a:Act)(w:World),Qcy P md ops Q S k fuel listed a w→wpAny P md ops Q fuel listed a w
 | 0,_,_,_,h=>h
 | fuel+1,_,_,_,h=>⟨h.1,fun i hi=>wpOp_mono (fun a' w' h'=>by
  by_cases e:i=k
  · rw [if_pos e] at h';exact h'
  · rw [if_neg e] at h';exact Qmh fuel _ a' w' h'.2) (h.2 i hi)⟩
def Qfe (md:Region.Mode)(ops:Array Oper)(k i:Nat):Bool:=(ops[k]?).elim false fun o=>o.after.any fun e=>Region.binds md e && e.on == i
theorem Qke {i:Nat}{listed:Array Bool}(h:Qfe md ops k i=true)(hi:i∈Region.ready md ops listed):k ∉ Region.ready md ops listed:=by
 intro hk;obtain ⟨_,o,ho,hall⟩:=mem_ready.1 hk;unfold Qfe at h;rw [ho] at h;simp only [Option.elim,Array.any_eq_true',Bool.and_eq_true,beq_iff_eq] at h;obtain ⟨e,he,hb,hon⟩:=h;have h1:=hall e he hb;have h0:=(mem_ready.1 hi).1;rw [hon] at h1;simp only [Array.getD_eq_getD_getElem?] at h0 h1
 cases hx:listed[i]? with
 | none=>rw [hx] at h0;cases h0
 | some b=>rw [hx] at h0 h1;simp at h0 h1;rw [h0] at h1;cases h1
theorem Qoy {i:Nat}{oi:Oper}{v:Value} (hi:ops[i]?=some oi) (hsel:∀ (j:Nat) (o:Oper) cs b,ops[j]?=some o→o.op≠.select cs b)
 (hQ:∀ c a w,Q (.panic c) (a.put oi.dst v) w→Q (.panic c) a w) (hwk:Qfe md ops k i=true) (hik:i≠k) :
 ∀ (fuel:Nat) (listed:Array Bool) (a:Act) (w:World),
  (∀ j oj,ops[j]?=some oj→j≠i→listed.getD j true=false→(∀ e∈oj.after,Region.binds md e=true→e.on≠i)→oi.apart ops oj=true) →
  i∈Region.ready md ops listed→YieldsIf P ops S oi v a→S w →
  Qcy P md ops Q S k fuel (listed.setIfInBounds i true) (a.put oi.dst v) w→Qcy P md ops Q S k (fuel+1) listed a w:=by
 intro fuel
 induction fuel with
 | zero =>
  intro listed a w _ hr hy hS H;refine ⟨fun h=>(by rw [h] at hr;cases hr),fun j hj=>?_⟩
  by_cases hji:j=i
  · subst hji
    refine hy.wpOp hi hS ?_;rw [if_neg hik];exact ⟨hS,H⟩
  · have:=ready_mono hj hji
    rw [H.1] at this
    cases this
 | succ fuel ih =>
  intro listed a w hfree hr hy hS H;refine ⟨fun h=>(by rw [h] at hr;cases hr),fun j hj=>?_⟩
  by_cases hji:j=i
  · subst hji
    refine hy.wpOp hi hS ?_;rw [if_neg hik];exact ⟨hS,H⟩
  · have hjk:j≠k:=fun e=>Qke hwk hr (e▸hj)
    have h1:=H.2 j (ready_mono hj hji);obtain ⟨hjun,oj,hoj,hall⟩:=mem_ready.1 hj
    have hnot:∀ e∈oj.after,Region.binds md e=true→e.on≠i:=fun e he hb heq=>by
     refine Qke (k:=j) (i:=i) ?_ hr hj;unfold Qfe;rw [hoj];simp only [Option.elim,Array.any_eq_true',Bool.and_eq_true,beq_iff_eq];exact ⟨e,he,hb,heq⟩
    have h2:=wpOp_putIf hoj (hfree j oj hoj hji hjun hnot) (fun cs b=>hsel i oi cs b hi) (fun cs b=>hsel j oj cs b hoj) hQ hy h1
    have hfree':∀ q oq,ops[q]?=some oq→q≠i→(listed.setIfInBounds j true).getD q true=false →
     (∀ e∈oq.after,Region.binds md e=true→e.on≠i)→oi.apart ops oq=true:=fun q oq hq hqi hun hno=>by
     refine hfree q oq hq hqi ?_ hno
     by_cases hjq:j=q
     · subst hjq;exact hjun
     · rw [getD_set_ne true hjq] at hun;exact hun
    refine wpOp_mono (fun a' w' h3=>?_) h2;rw [if_neg hjk] at h3 ⊢;refine ⟨h3.2.1,ih (listed.setIfInBounds j true) a' w' hfree' (ready_mono hr (Ne.symm hji)) h3.1 h3.2.1 ?_⟩;rw [Array.setIfInBounds_comm _ _ hji];exact h3.2.2
theorem takeK_ {i:Nat}{oi:Oper}{d:Option Tmp}{v:Value}{fuel:Nat}{listed:Array Bool}{a:Act}{w:World} (hi:ops[i]?=some oi) (hd:oi.dst=d)
 (hwk:Qfe md ops k i=true) (hik:(i == k)=false) (hs:Region.noSelect ops=true) (hf:Region.free md ops listed i=true) (hr:(Region.ready md ops listed).contains i=true)
 (hQ:∀ c a w,Q (.panic c) (a.put oi.dst v) w→Q (.panic c) a w) (hw:Region.wanted oi (yielded ops a.tmps)=true) (hy:∀ w,S w→(execOp a.eval oi).run P w=.ok (.value v) w) (hS:S w)
 (h:Qcy P md ops Q S k fuel (listed.setIfInBounds i true) (a.put d v) w):Qcy P md ops Q S k (fuel+1) listed a w:=by
 subst hd;exact Qoy hi (Region.noSelect_spec hs) hQ hwk (by simpa using hik) fuel listed a w (Region.free_spec hi hf) (by simpa using hr) (Or.inl ⟨hw,hy⟩) hS h
theorem Qsa {i:Nat}{oi:Oper}{v:Value} (hi:ops[i]?=some oi) (hsel:∀ (j:Nat) (o:Oper) cs b,ops[j]?=some o→o.op≠.select cs b)
 (hQ:∀ c a w,Q (.panic c) (a.put oi.dst v) w→Q (.panic c) a w) (hik:i≠k) :
 ∀ (fuel:Nat) (listed:Array Bool) (a:Act) (w:World),
  (∀ j oj,ops[j]?=some oj→j≠i→listed.getD j true=false→(∀ e∈oj.after,Region.binds md e=true→e.on≠i)→oi.apart ops oj=true) →
  i∈Region.ready md ops listed→YieldsIf P ops (fun _=>True) oi v a→S w →
  Qcy P md ops Q S k fuel (listed.setIfInBounds i true) (a.put oi.dst v) w→Qcy P md ops Q S k (fuel+1) listed a w:=by
 intro fuel
 induction fuel with
 | zero =>
  intro listed a w _ hr hy hS H;refine ⟨fun h=>(by rw [h] at hr;cases hr),fun j hj=>?_⟩
  by_cases hji:j=i
  · subst hji
    refine hy.wpOp hi trivial ?_;rw [if_neg hik];exact ⟨hS,H⟩
  · have:=ready_mono hj hji
    rw [H.1] at this
    cases this
 | succ fuel ih =>
  intro listed a w hfree hr hy hS H;refine ⟨fun h=>(by rw [h] at hr;cases hr),fun j hj=>?_⟩
  by_cases hji:j=i
  · subst hji
    refine hy.wpOp hi trivial ?_;rw [if_neg hik];exact ⟨hS,H⟩
  · have h1:=H.2 j (ready_mono hj hji)
    obtain ⟨hjun,oj,hoj,hall⟩:=mem_ready.1 hj
    have hnot:∀ e∈oj.after,Region.binds md e=true→e.on≠i:=fun e he hb heq=>by
     refine Qke (k:=j) (i:=i) ?_ hr hj;unfold Qfe;rw [hoj];simp only [Option.elim,Array.any_eq_true',Bool.and_eq_true,beq_iff_eq];exact ⟨e,he,hb,heq⟩
    have h2:=wpOp_putIf hoj (hfree j oj hoj hji hjun hnot) (fun cs b=>hsel i oi cs b hi) (fun cs b=>hsel j oj cs b hoj) hQ hy h1
    have hfree':∀ q oq,ops[q]?=some oq→q≠i→(listed.setIfInBounds j true).getD q true=false →
     (∀ e∈oq.after,Region.binds md e=true→e.on≠i)→oi.apart ops oq=true:=fun q oq hq hqi hun hno=>by
     refine hfree q oq hq hqi ?_ hno
     by_cases hjq:j=q
     · subst hjq;exact hjun
     · rw [getD_set_ne true hjq] at hun;exact hun
    refine wpOp_mono (fun a' w' h3=>?_) h2
    by_cases hjk:j=k
    · rw [if_pos hjk] at h3 ⊢
      refine wpAny_first hi hsel hQ fuel (listed.setIfInBounds j true) a' w' hfree' (ready_mono hr (Ne.symm hji)) (h3.1.imp (fun ⟨ha,hb⟩=>⟨ha,fun w=>hb w trivial⟩) id) ?_;rw [Array.setIfInBounds_comm _ _ hji];exact h3.2
    · rw [if_neg hjk] at h3 ⊢
      refine ⟨h3.2.1,ih (listed.setIfInBounds j true) a' w' hfree' (ready_mono hr (Ne.symm hji)) h3.1 h3.2.1 ?_⟩;rw [Array.setIfInBounds_comm _ _ hji];exact h3.2.2
theorem takeF_ {i:Nat}{oi:Oper}{d:Option Tmp}{v:Value}{fuel:Nat}{listed:Array Bool}{a:Act}{w:World} (hi:ops[i]?=some oi) (hd:oi.dst=d)
 (hik:(i == k)=false) (hs:Region.noSelect ops=true) (hf:Region.free md ops listed i=true) (hr:(Region.ready md ops listed).contains i=true)
 (hQ:∀ c a w,Q (.panic c) (a.put oi.dst v) w→Q (.panic c) a w) (hw:Region.wanted oi (yielded ops a.tmps)=true) (hy:∀ w,True→(execOp a.eval oi).run P w=.ok (.value v) w) (hS:S w)
 (h:Qcy P md ops Q S k fuel (listed.setIfInBounds i true) (a.put d v) w):Qcy P md ops Q S k (fuel+1) listed a w:=by
 subst hd;exact Qsa hi (Region.noSelect_spec hs) hQ (by simpa using hik) fuel listed a w (Region.free_spec hi hf) (by simpa using hr) (Or.inl ⟨hw,hy⟩) hS h
theorem tkK (i d:Nat){oi:Oper}{fuel:Nat}{listed:Array Bool}{a:Act}{w:World} (hi:ops[i]?=some oi:=by rfl) (hd:oi.dst=some d:=by rfl) (hwk:Qfe md ops k i=true:=by kernel_rfl) (hik:(i == k)=false:=by rfl) (hs:Region.noSelect ops=true:=by kernel_rfl)
 (hf:Region.free md ops listed i=true:=by kernel_rfl) (hr:(Region.ready md ops listed).contains i=true:=by kernel_rfl) (hQ:∀ c a w v,Q (.panic c) (a.put oi.dst v) w→Q (.panic c) a w:=by exact fun _ _ _ _ h=>h) (hw:Region.wanted oi (yielded ops a.tmps)=true:=by rfl) (hS:S w:=by first|rfl|trivial|assumption)
 (h:∃ v,(∀ w,S w→(execOp a.eval oi).run P w=.ok (.value v) w)∧Qcy P md ops Q S k fuel (listed.setIfInBounds i true) (a.put (some d) v) w):Qcy P md ops Q S k (fuel+1) listed a w:=by
 obtain ⟨v,h1,h2⟩:=h;exact takeK_ (i:=i) (d:=some d) (v:=v) hi hd hwk hik hs hf hr (fun c a w=>hQ c a w v) hw h1 hS h2
theorem tkF (i d:Nat){oi:Oper}{fuel:Nat}{listed:Array Bool}{a:Act}{w:World} (hi:ops[i]?=some oi:=by rfl) (hd:oi.dst=some d:=by rfl) (hik:(i == k)=false:=by rfl) (hs:Region.noSelect ops=true:=by kernel_rfl)
 (hf:Region.free md ops listed i=true:=by kernel_rfl) (hr:(Region.ready md ops listed).contains i=true:=by kernel_rfl) (hQ:∀ c a w v,Q (.panic c) (a.put oi.dst v) w→Q (.panic c) a w:=by exact fun _ _ _ _ h=>h) (hw:Region.wanted oi (yielded ops a.tmps)=true:=by rfl) (hS:S w:=by first|rfl|trivial|assumption)
 (h:∃ v,(∀ w,True→(execOp a.eval oi).run P w=.ok (.value v) w)∧Qcy P md ops Q S k fuel (listed.setIfInBounds i true) (a.put (some d) v) w):Qcy P md ops Q S k (fuel+1) listed a w:=by
 obtain ⟨v,h1,h2⟩:=h;exact takeF_ (i:=i) (d:=some d) (v:=v) hi hd hik hs hf hr (fun c a w=>hQ c a w v) hw h1 hS h2
theorem Qbs {o:Oper}{fuel:Nat}{listed:Array Bool}{a:Act}{w:World} (hr:Region.ready md ops listed=[k]) (ho:ops[k]?=some o)
 (h:∀ K':Act→World→Prop,Shut (∀ a w,wpAny P md ops Q fuel (listed.setIfInBounds k true) a w→K' a w)→if Region.wanted o (yielded ops a.tmps)=true then Oper.wp P o a w K' Q else K' (a.put o.dst undef) w) :
 Qcy P md ops Q S k (fuel+1) listed a w:=by
 refine ⟨fun h0=>(by rw [hr] at h0;cases h0),fun j hj=>?_⟩
 rw [hr] at hj;obtain rfl:j=k:=by simpa using hj
 refine wpOp_step ho (fun K' hK=>h K' (fun a w hW=>hK a w ?_));rw [if_pos rfl];exact hW
theorem Qbb {i:Nat}{o:Oper}{fuel:Nat}{listed:Array Bool}{a:Act}{w:World} (hr:Region.ready md ops listed=[i]) (hik:(i == k)=false) (ho:ops[i]?=some o)
 (h:∀ K':Act→World→Prop,Shut (∀ a w,S w→(S w→Qcy P md ops Q S k fuel (listed.setIfInBounds i true) a w)→K' a w)→if Region.wanted o (yielded ops a.tmps)=true then Oper.wp P o a w K' Q else K' (a.put o.dst undef) w) :
 Qcy P md ops Q S k (fuel+1) listed a w:=by
 refine ⟨fun h0=>(by rw [hr] at h0;cases h0),fun j hj=>?_⟩
 rw [hr] at hj;obtain rfl:j=i:=by simpa using hj
 refine wpOp_step ho (fun K' hK=>h K' (fun a w hS hW=>hK a w ?_));rw [if_neg (by simpa using hik)];exact ⟨hS,hW hS⟩
theorem Qbm {listed:Array Bool}{a:Act}{w:World} (hr:Region.ready md ops listed=[]) (h:Q .normal a w):∀ fuel,wpAny P md ops Q fuel listed a w
 | 0=>⟨hr,h⟩
 | _+1=>⟨fun _=>h,by rw [hr];simp⟩
theorem Qbf (k:Nat){id:Nat}{a:Act}{w:World}(hm:P.follows .mixedOrders=true)(hS:S w.drew)
 (h:S w.drew→Qcy P .any ops Q S k ops.size (Array.replicate ops.size false) a w.drew):(Code.region id ops true).wp P Q a w :=
 wp_region_any hm (Qmh _ _ _ _ (h hS))
end
attribute [local go_sem ↓] Go.wp_at_zero Go.wp_at_succ
def hAh (x y:Int)(a b:Nat):Bool:=if x≠y then decide (x<y) else decide (a<b)
theorem hAh_t {x y:Int}{a b:Nat}(h:hAh x y a b=true):x≤y:=by
 unfold hAh at h
 by_cases e:x=y
 · omega
 · rw [if_pos e] at h;have:=of_decide_eq_true h;omega
theorem hAh_f {x y:Int}{a b:Nat}(h:hAh x y a b=false):y≤x:=by
 unfold hAh at h
 by_cases e:x=y
 · omega
 · rw [if_pos e] at h;have:=of_decide_eq_false h;omega
section
variable {G:Nat→Prop} {g gc gs gr n m c:Nat} {R:List Nat} {C:List Int} {S:List Nat}
set_option maxHeartbeats 1000000 in
theorem Qmb (w:World) (h:Qba w G g (some ⟨gr,0,none⟩) gc gs n m c R C S) {i j a b:Nat} {x y:Int} (hi:R[i]?=some a) (hj:R[j]?=some b) (hx:C[a]?=some x) (hy:C[b]?=some y) (hn:b<n) :
 Calls prog 168 #[.pointer (some ⟨g,0,none⟩),.int .i64 i,.int .i64 j] w fun e w'=>e=.returned (.bool (hAh x y a b))∧Below w.heap.size w w':=by
 obtain ⟨hm,hcc⟩:=h.cap;have hn0:=h.n0;have hia:=(Zs hi).1;have hjb:=(Zs hj).1;have hxa:=(Zs hx).1;have hlr:=h.lr;have hlc:=h.lc;have HS:=Zh (show ∀ V,Below w.heap.size w V→Qba V G g (some ⟨gr,0,none⟩) gc gs n m c R C S from fun V hV=>h.keep hV)
 have i1:(0:Int)≤(i:Int):=by omega
 have i2:(i:Int)<(m:Int):=by omega
 have i3:(0:Int)≤(j:Int):=by omega
 have i4:(j:Int)<(m:Int):=by omega
 have i5:(0:Int)≤(a:Int):=by omega
 have i6:(a:Int)<(n:Int):=by omega
 have i7:(0:Int)≤(b:Int):=by omega
 have i8:(b:Int)<(n:Int):=by omega
 have HSX:=Zh (show ∀ V,Below w.heap.size w V→V.cell? ⟨g,0,none⟩=some (.slice (some ⟨gr,0,none⟩) m c)∧V.cell? ⟨g,1,none⟩=some (.slice (some ⟨gc,0,none⟩) n n)∧V.cell? ⟨gr,i,none⟩=some (.int .i64 a)∧V.cell? ⟨gr,j,none⟩=some (.int .i64 b)∧V.cell? ⟨gc,a,none⟩=some (.int .i64 x)∧V.cell? ⟨gc,b,none⟩=some (.int .i64 y) from
  fun V hV=>⟨(h.keep hV).f0,(h.keep hV).f1,(h.keep hV).rowAt hi,(h.keep hV).rowAt hj,(h.keep hV).costAt hx,(h.keep hV).costAt hy⟩)
 have f0:=h.f0;have f1:=h.f1;have r1:=h.rowAt hi;have r2:=h.rowAt hj;have q1:=h.costAt hx;have q2:=h.costAt hy;clear h hi hj hx hy HS
 go_enter func168,ntmps168
 go_wp2_with fail
 refine wp_region_held_drew (S:=fun V=>Below w.heap.size w V) (by kernel_rfl) (Zr _ _).drew (fun _=>?_);refine tz 0 9 ?_;refine tz 1 10 ?_;refine tz 2 11 ?_;refine tz 3 12 ?_;refine tz 4 13 ?_;refine tz 5 14 ?_;refine tz 6 15 ?_;refine tz 7 16 ?_;refine tz 8 17 ?_;refine tz 9 18 ?_;refine tz 10 19 ?_;refine tz 11 20 ?_;refine tz 12 21 ?_;refine tz 13 22 ?_;refine tz 14 7 ?_;refine tz 15 8 ?_;refine Zd ?_
 go_wp2_with fail
 refine wp_region_held_drew (S:=fun V=>Below w.heap.size w V) (by kernel_rfl) (Zr _ _).drew.drew (fun _=>?_);refine tz 0 23 ?_;refine tz 1 24 ?_;refine tz 2 25 ?_;refine tz 3 26 ?_;refine tz 4 27 ?_;refine tz 5 28 ?_;refine tz 6 29 ?_;refine tz 7 30 ?_;refine tz 8 31 ?_;refine tz 9 32 ?_;refine tz 10 33 ?_;refine tz 11 34 ?_;refine tz 12 35 ?_;refine tz 13 36 ?_;refine tz 14 37 ?_;refine Zd ?_
 by_cases hxy:x=y
 · have e1:(x == y)=true:=by simp [hxy]
   go_wp2_with fail
   go_ret
   exact ⟨Qbe (by simp [hAh,hxy]),Qaf⟩
 · have e1:(x == y)=false:=by simp [hxy]
   go_wp2_with fail
   refine wp_region_held_drew (S:=fun V=>Below w.heap.size w V) (by kernel_rfl) (Zr _ _).drew.drew.drew (fun _=>?_);refine tz 0 38 ?_;refine tz 1 39 ?_;refine tz 2 40 ?_;refine tz 3 41 ?_;refine tz 4 42 ?_;refine tz 5 43 ?_;refine tz 6 44 ?_;refine tz 7 45 ?_;refine tz 8 46 ?_;refine tz 9 47 ?_;refine tz 10 48 ?_;refine tz 11 49 ?_;refine tz 12 50 ?_;refine tz 13 51 ?_;refine tz 14 52 ?_;refine tz 15 6 ?_;refine Zd ?_
   go_wp2_with fail
   go_ret
   exact ⟨Qbe (by simp [hAh,hxy]),Qaf⟩
set_option maxHeartbeats 2000000 in
theorem Qkg (w:World) (h:Qba w G g (some ⟨gr,0,none⟩) gc gs n m c R C S) {i j a b:Nat} (hi:R[i]?=some a) (hj:R[j]?=some b) (ha:a<n) (hb:b<n) :
 Calls prog 161 #[.pointer (some ⟨g,0,none⟩),.int .i64 i,.int .i64 j] w fun e w'=>e=.returned (.tuple #[])∧Qba w' G g (some ⟨gr,0,none⟩) gc gs n m c (Qdt R i j) C (Qjg R S i j)∧Aft G w w':=by
 have hm:=h.cap.1;have hcc:=h.cap.2;have hn0:=h.n0;have hia:=(Zs hi).1;have hjb:=(Zs hj).1;have hlr:=h.lr;have hls:=h.ls;have i1:(0:Int)≤(i:Int):=by omega
 have i2:(i:Int)<(m:Int):=by omega
 have i3:(0:Int)≤(j:Int):=by omega
 have i4:(j:Int)<(m:Int):=by omega
 have i5:(0:Int)≤(a:Int):=by omega
 have i6:(a:Int)<(n:Int):=by omega
 have i7:(0:Int)≤(b:Int):=by omega
 have i8:(b:Int)<(n:Int):=by omega
 have f0:=h.f0;have f2:=h.f2;have r1:=h.rowAt hi;have r2:=h.rowAt hj;have z1:w.frozen? ⟨gr,i,none⟩=false:=h.fzR;have z2:w.frozen? ⟨gr,j,none⟩=false:=h.fzR;have hR1:Qdt R i j=(R.set i b).set j a:=by unfold Qdt;rw [Qcg hi,Qcg hj]
 have hS1:Qjg R S i j=(S.set b (i+1)).set a (j+1):=by unfold Qjg;rw [Qcg hi,Qcg hj]
 have hw1:=h.setR (i:=i) (k:=b)
 have g1:(R.set i b)[j]?=some b:=by
  rw [List.getElem?_set]
  by_cases e:i=j
  · subst e;simp [hia]
  · rw [if_neg e];exact hj
 have r3:=hw1.rowAt g1;have hw2:=hw1.setR (i:=j) (k:=a)
 have g2:((R.set i b).set j a)[i]?=some b:=by
  rw [List.getElem?_set]
  by_cases e:j=i
  · subst e;rw [hi] at hj;cases hj;simp [hia]
  · rw [if_neg e];simp [hia]
 have g3:((R.set i b).set j a)[j]?=some a:=by simp [hjb]
 have HW2:=Zh hw2;have HF:=Zh ((h.dA gr rfl).2.2.2);clear h hw1 hw2
 go_enter func161,ntmps161
 go_wp2_with fail
 refine Qbf 25 (S:=fun V=>V.cell? ⟨g,0,none⟩=some (.slice (some ⟨gr,0,none⟩) m c)∧V.cell? ⟨gr,i,none⟩=some (.int .i64 a)∧V.cell? ⟨gr,j,none⟩=some (.int .i64 b)) (by kernel_rfl) ⟨f0,r1,r2⟩ (fun _=>?_);refine tkF 0 6 (h:=⟨_,tv,?_⟩);simp only [pE,List.set];refine tkF 1 7 (h:=⟨_,tv,?_⟩);simp only [pE,List.set];refine tkF 2 8 (h:=⟨_,tv,?_⟩);simp only [pE,List.set];refine tkK 3 9 (h:=⟨_,tv,?_⟩);simp only [pE,List.set];refine tkF 4 10 (h:=⟨_,tv,?_⟩);simp only [pE,List.set];refine tkF 5 11 (h:=⟨_,tv,?_⟩);simp only [pE,List.set];refine tkF 6 12 (h:=⟨_,tv,?_⟩);simp only [pE,List.set];refine tkF 7 13 (h:=⟨_,tv,?_⟩);simp only [pE,List.set];refine tkK 8 14 (h:=⟨_,tv,?_⟩);simp only [pE,List.set];refine tkF 9 15 (h:=⟨_,tv,?_⟩);simp only [pE,List.set];refine tkF 10 16 (h:=⟨_,tv,?_⟩);simp only [pE,List.set];refine tkF 11 17 (h:=⟨_,tv,?_⟩);simp only [pE,List.set];refine tkF 12 18 (h:=⟨_,tv,?_⟩);simp only [pE,List.set];refine tkK 13 19 (h:=⟨_,tv,?_⟩);simp only [pE,List.set];refine tkF 14 20 (h:=⟨_,tv,?_⟩);simp only [pE,List.set];refine tkF 15 21 (h:=⟨_,tv,?_⟩);simp only [pE,List.set];refine tkK 16 22 (h:=⟨_,tv,?_⟩);simp only [pE,List.set];refine tkF 17 23 (h:=⟨_,tv,?_⟩);simp only [pE,List.set];refine tkF 18 24 (h:=⟨_,tv,?_⟩);simp only [pE,List.set];refine tkF 19 25 (h:=⟨_,tv,?_⟩);simp only [pE,List.set];refine tkK 20 26 (h:=⟨_,tv,?_⟩);simp only [pE,List.set];refine tkF 21 27 (h:=⟨_,tv,?_⟩);simp only [pE,List.set];refine tkF 22 28 (h:=⟨_,tv,?_⟩);simp only [pE,List.set];refine tkK 23 29 (h:=⟨_,tv,?_⟩);simp only [pE,List.set];refine tkF 24 30 (h:=⟨_,tv,?_⟩);simp only [pE,List.set];refine Qbs (k:=25) (by kernel_rfl) rfl (fun K hK=>?_);go_simp;refine hK.out _ _ ?_;clear hK K;refine wpAny_of_held (S:=fun _=>True) _ _ _ _ ?_;refine tz 26 31 ?_;refine Zk 27 (fun K hK=>?_);go_simp;refine hK.out _ _ trivial (fun _=>?_);clear hK K;refine Zd ?_;obtain ⟨W2,hW2⟩:∃ W2,W2=((w.setCell ⟨gr,i,none⟩ (.int .i64 b)).setCell ⟨gr,j,none⟩ (.int .i64 a)).drew:=⟨_,rfl⟩;have hh2:Qba W2 G g (some ⟨gr,0,none⟩) gc gs n m c ((R.set i b).set j a) C S:=by rw [hW2];exact HW2.out.drew
 have ha2:Aft G w W2:=by rw [hW2];exact (((Aft.refl G w).set HF.out _).set HF.out _).drew
 have t0:W2.cell? ⟨g,0,none⟩=some (.slice (some ⟨gr,0,none⟩) m c):=hh2.f0;have t2:W2.cell? ⟨g,2,none⟩=some (.slice (some ⟨gs,0,none⟩) n n):=hh2.f2;have u1:=hh2.rowAt g2;have hw3:=hh2.setS (i:=b) (k:=i+1);have hw4:=hw3.drew.setS (i:=a) (k:=j+1);have p0:=hw3.drew.f0;have p2:=hw3.drew.f2;have q1:=hw3.drew.rowAt g3;have HW4:=Zh hw4;have HG:=Zh hh2.dG.2.2;have HA:=Zh ha2;have e2:((i+1:Nat):Int)=(i:Int)+1:=by omega
 have e3:((j+1:Nat):Int)=(j:Int)+1:=by omega
 have y1:W2.frozen? ⟨gs,b,none⟩=false:=hh2.ss.frozen b;have y2:W2.frozen? ⟨gs,a,none⟩=false:=hh2.ss.frozen a;have x1:∃ v,W2.cell? ⟨gs,b,none⟩=some v:=⟨_,hh2.seatAt (Qbl 0 (by omega))⟩;have x2:∃ v,(W2.setCell ⟨gs,b,none⟩ (.int .i64 ((i+1:Nat):Int))).drew.cell? ⟨gs,a,none⟩=some v:=⟨_,hw3.drew.seatAt (Qbl 0 (by rw [Yq];omega))⟩;obtain ⟨v1,x1⟩:=x1;obtain ⟨v2,x2⟩:=x2;rw [e2] at x2 p0 p2 q1;rw [←hW2];clear HW2 hW2 hh2 ha2 hw3 hw4 r1 r2 r3 f0 f2 z1 z2
 go_wp2_with fail
 refine Qbf 14 (S:=fun V=>V.cell? ⟨g,0,none⟩=some (.slice (some ⟨gr,0,none⟩) m c)∧V.cell? ⟨g,2,none⟩=some (.slice (some ⟨gs,0,none⟩) n n)∧V.cell? ⟨gr,i,none⟩=some (.int .i64 b)) (by kernel_rfl) ⟨t0,t2,u1⟩ (fun _=>?_);refine tkF 0 32 (h:=⟨_,tv,?_⟩);simp only [pE,List.set];refine tkF 1 33 (h:=⟨_,tv,?_⟩);simp only [pE,List.set];refine tkF 2 34 (h:=⟨_,tv,?_⟩);simp only [pE,List.set];refine tkK 3 35 (h:=⟨_,tv,?_⟩);simp only [pE,List.set];refine tkF 4 36 (h:=⟨_,tv,?_⟩);simp only [pE,List.set];refine tkF 5 37 (h:=⟨_,tv,?_⟩);simp only [pE,List.set];refine tkF 6 38 (h:=⟨_,tv,?_⟩);simp only [pE,List.set];refine tkK 7 39 (h:=⟨_,tv,?_⟩);simp only [pE,List.set];refine tkF 8 40 (h:=⟨_,tv,?_⟩);simp only [pE,List.set];refine tkF 9 41 (h:=⟨_,tv,?_⟩);simp only [pE,List.set];refine tkK 10 42 (h:=⟨_,tv,?_⟩);simp only [pE,List.set];refine tkF 11 43 (h:=⟨_,tv,?_⟩);simp only [pE,List.set];refine tkF 12 44 (h:=⟨_,tv,?_⟩);simp only [pE,List.set];refine tkF 13 45 (h:=⟨_,tv,?_⟩);simp only [pE,List.set];refine Qbs (k:=14) (by kernel_rfl) rfl (fun K hK=>?_);go_simp;refine hK.out _ _ ?_;clear hK K;refine Qbm (by kernel_rfl) ?_ _;have e4:IntKind.i64.wrap ((i:Int)+1)=(i:Int)+1:=IntWalk.i64_in _ (by omega);have e5:IntKind.i64.wrap ((j:Int)+1)=(j:Int)+1:=IntWalk.i64_in _ (by omega);rw [e4];obtain ⟨W3,hW3⟩:∃ W3,W3=(W2.setCell ⟨gs,b,none⟩ (.int .i64 ((i:Int)+1))).drew:=⟨_,rfl⟩;have y3:W3.frozen? ⟨gs,a,none⟩=false:=by rw [hW3];rw [e2] at HW4;exact (HW4.out.ss.frozen a).symm.trans (by simp) |>.symm.trans (by simp)
 rw [←hW3] at x2 p0 p2 q1;rw [e2,←hW3] at HW4;have HA3:=Zh (show Aft G w W3 by rw [hW3];exact (HA.out.set HG.out _).drew)
 rw [←hW3];clear hW3 HA t0 t2 u1 x1 y1 y2
 go_wp2_with fail
 refine Qbf 14 (S:=fun V=>V.cell? ⟨g,0,none⟩=some (.slice (some ⟨gr,0,none⟩) m c)∧V.cell? ⟨g,2,none⟩=some (.slice (some ⟨gs,0,none⟩) n n)∧V.cell? ⟨gr,j,none⟩=some (.int .i64 a)) (by kernel_rfl) ⟨p0,p2,q1⟩ (fun _=>?_);refine tkF 0 46 (h:=⟨_,tv,?_⟩);simp only [pE,List.set];refine tkF 1 47 (h:=⟨_,tv,?_⟩);simp only [pE,List.set];refine tkF 2 48 (h:=⟨_,tv,?_⟩);simp only [pE,List.set];refine tkK 3 49 (h:=⟨_,tv,?_⟩);simp only [pE,List.set];refine tkF 4 50 (h:=⟨_,tv,?_⟩);simp only [pE,List.set];refine tkF 5 51 (h:=⟨_,tv,?_⟩);simp only [pE,List.set];refine tkF 6 52 (h:=⟨_,tv,?_⟩);simp only [pE,List.set];refine tkK 7 53 (h:=⟨_,tv,?_⟩);simp only [pE,List.set];refine tkF 8 54 (h:=⟨_,tv,?_⟩);simp only [pE,List.set];refine tkF 9 55 (h:=⟨_,tv,?_⟩);simp only [pE,List.set];refine tkK 10 56 (h:=⟨_,tv,?_⟩);simp only [pE,List.set];refine tkF 11 57 (h:=⟨_,tv,?_⟩);simp only [pE,List.set];refine tkF 12 58 (h:=⟨_,tv,?_⟩);simp only [pE,List.set];refine tkF 13 59 (h:=⟨_,tv,?_⟩);simp only [pE,List.set];refine Qbs (k:=14) (by kernel_rfl) rfl (fun K hK=>?_);go_simp;refine hK.out _ _ ?_;clear hK K;refine Qbm (by kernel_rfl) ?_ _
 go_wp2_with fail
 go_end0
 refine ⟨rfl,?_,(HA3.out.set HG.out _).drew⟩;rw [hR1,hS1,←e3];exact HW4.out.drew
end
end Go.Proofs.YthoagdpakddbdaaGreatDoor
namespace Go.Proofs.YthoagdpakddbdaaGreatDoor
theorem Ord.congr {c c':Nat→Int}{len:Nat}(h:Ord c len)(e:∀ x,x<len→c' x=c x):Ord c' len:=fun i h0 hl=>by rw [e i hl,e _ (by omega)];exact h i h0 hl
theorem UpO.congr {c c':Nat→Int}{len p:Nat}(h:UpO c len p)(e:∀ x,x<len→c' x=c x):UpO c' len p :=
 ⟨fun i h0 hl hn=>by rw [e i hl,e _ (by omega)];exact h.o i h0 hl hn,fun i h0 hl hp hq=>by rw [e i hl,e _ (by omega)];exact h.g i h0 hl hp hq⟩
theorem Qhx.congr {c c':Nat→Int}{len p:Nat}(h:Qhx c len p)(e:∀ x,x<len→c' x=c x):Qhx c' len p :=
 ⟨fun i h0 hl hn=>by rw [e i hl,e _ (by omega)];exact h.o i h0 hl hn,fun i h0 hl hp hq=>by rw [e i hl,e _ (by omega)];exact h.g i h0 hl hp hq⟩
theorem Qom {r:List Nat}{i j:Nat}(hi:i<r.length)(hj:j<r.length)(k:Nat):k∈Qdt r i j↔k∈r:=by
 simp only [List.mem_iff_getElem?]
 constructor
 · rintro ⟨x,hx⟩
   rw [Qdf hi hj] at hx
   by_cases e:x=j
   · rw [if_pos e] at hx;exact ⟨_,hx⟩
   · rw [if_neg e] at hx
     by_cases e2:x=i
     · rw [if_pos e2] at hx;exact ⟨_,hx⟩
     · rw [if_neg e2] at hx;exact ⟨_,hx⟩
 · rintro ⟨x,hx⟩
   by_cases e:x=i
   · subst e;exact ⟨j,by rw [Qdf hi hj,if_pos rfl];exact hx⟩
   · by_cases e2:x=j
     · subst e2
       exact ⟨i,by rw [Qdf hi hj,if_neg (fun e3=>e e3.symm),if_pos rfl];exact hx⟩
     · exact ⟨x,by rw [Qdf hi hj,if_neg e2,if_neg e];exact hx⟩
theorem HpS.key {n:Nat}{r:List Nat}{cs:List Int}{st:List Nat}(h:HpS n r cs st){i:Nat}(hi:i<r.length):∃ k x,r[i]?=some k∧k<n∧cs[k]?=some x∧at_ r cs i=x:=by
 have h1:=Qbl 0 hi;have h2:=(h.seat i _ h1).1;refine ⟨_,_,h1,h2,Qbl 0 (by rw [h.lc];exact h2),rfl⟩
theorem Qjh:∀ (n:Nat)(l:List Nat),l.Nodup→(∀ k∈l,k<n)→l.length≤n
 | 0,l,_,h=>by
  cases l with
  | nil=>simp
  | cons a l=>exact absurd (h a (by simp)) (by omega)
 | n+1,l,hn,h=>by
  have h1:=Qjh n (l.erase n) (hn.erase n) (fun k hk=>by
   have h2:=h k (List.mem_of_mem_erase hk);have h3:k≠n:=fun e=>by rw [e] at hk;exact (List.Nodup.not_mem_erase hn) hk
   omega)
  have h4:l.length≤(l.erase n).length+1:=by
   rw [List.length_erase]
   split <;> omega
  omega
theorem HpS.le {n:Nat}{r:List Nat}{cs:List Int}{st:List Nat}(h:HpS n r cs st):r.length≤n:=by
 refine Qjh n r ?_ (fun k hk=>?_)
 · refine List.pairwise_iff_getElem.2 (fun i j hi hj hij e=>?_)
   have h1:=Zg hi;have h2:=Zg hj;rw [←e] at h2;exact absurd (h.nodup h1 h2) (by omega)
 · obtain ⟨i,hi⟩:=List.mem_iff_getElem?.1 hk
   exact (h.seat i k hi).1
theorem up_step {n p:Nat}{r:List Nat}{cs:List Int}{st:List Nat}(h:HpS n r cs st) (hu:UpO (at_ r cs) r.length p) (h0:0<p) (hl:p<r.length) (hc:at_ r cs p≤at_ r cs ((p-1) / 2)) :
 HpS n (Qdt r p ((p-1) / 2)) cs (Qjg r st p ((p-1) / 2))∧UpO (at_ (Qdt r p ((p-1) / 2)) cs) (Qdt r p ((p-1) / 2)).length ((p-1) / 2) :=
 ⟨h.swap hl (by omega),by rw [Qfb];exact (hu.step h0 hl hc).congr (fun x hx=>Qzm hl (by omega) x hx)⟩
theorem Qzp {n p m:Nat}{r:List Nat}{cs:List Int}{st:List Nat}(h:HpS n r cs st) (hd:Qhx (at_ r cs) r.length p) (h0:0<m) (hl:m<r.length) (hm:(m-1) / 2=p) (hc:at_ r cs m≤at_ r cs p) (ho:∀ i,0<i→i<r.length→(i-1) / 2=p→at_ r cs m≤at_ r cs i) :
 HpS n (Qdt r p m) cs (Qjg r st p m)∧Qhx (at_ (Qdt r p m) cs) (Qdt r p m).length m :=
 ⟨h.swap (by omega) hl,by rw [Qfb];exact (hd.step h0 hl hm hc ho).congr (fun x hx=>Qzm (by omega) hl x hx)⟩
end Go.Proofs.YthoagdpakddbdaaGreatDoor
namespace Go.Proofs.YthoagdpakddbdaaGreatDoor
open Go.RowKit Go.Proofs.Tryz
attribute [local go_sem ↓] Go.wp_at_zero Go.wp_at_succ
section
variable {G:Nat→Prop} {g gc gs gr n m c:Nat} {R:List Nat} {C:List Int} {S:List Nat}
set_option maxHeartbeats 1000000 in
theorem Qym (w:World) (h:Qba w G g (some ⟨gr,0,none⟩) gc gs n m c R C S) (hp:HpS n R C S) (p:Nat) (hpm:p<m) (hu:UpO (at_ R C) m p) :
 Calls prog 160 #[.pointer (some ⟨g,0,none⟩),.int .i64 p] w fun e w'=>e=.returned (.tuple #[])∧∃ R' S',Qba w' G g (some ⟨gr,0,none⟩) gc gs n m c R' C S'∧HpS n R' C S'∧Ord (at_ R' C) m∧(∀ k,k∈R'↔k∈R)∧Aft G w w':=by
 have hcap:=h.cap;have HH:=Zh h;have HP:=Zh hp;have HU:=Zh hu;clear h hp hu
 go_enter func160,ntmps160
 go_wp2_with fail
 go_loopw [1] (fun q W=>∃ (p:Nat) (R' S':List Nat),q=.int .i64 p∧p<m∧Qba W G g (some ⟨gr,0,none⟩) gc gs n m c R' C S'∧HpS n R' C S'∧UpO (at_ R' C) m p∧(∀ k,k∈R'↔k∈R)∧Aft G w W) (fun q _=>(intOf q).toNat)
 case atStart=>exact ⟨p,R,S,rfl,hpm,HH.out,HP.out,HU.out,fun _=>Iff.rfl,Aft.refl _ _⟩
 case round =>
  obtain ⟨p,R',S',rfl,hpm,hw,hp,hu,hk,ha⟩:=hrel;have hlr:=hw.lr
  by_cases h0:p=0
  · subst h0
    have HW:=Zh hw;have HO:=Zh (hu.done (.inl rfl));have HQ:=Zh hp;have HK:=Zh hk;have HA:=Zh ha;clear hw hp hu hk ha
    go_wp2_with fail
    go_end0
    exact ⟨rfl,R',S',HW.out,HQ.out,HO.out,HK.out,HA.out⟩
  · have i1:(0:Int)<(p:Int):=by omega
    obtain ⟨a,x,ka,kb,kc,kd⟩:=hp.key (i:=p) (by omega);obtain ⟨b,y,la,lb,lc,ld⟩:=hp.key (i:=(p-1) / 2) (by omega);have HAH:=Zh (fun V (hV:Qba V G g (some ⟨gr,0,none⟩) gc gs n m c R' C S')=>Qmb V hV ka la kc lc lb);have HST:=Zh (fun hc=>up_step hp (by rw [hlr];exact hu) (by omega) (by omega) hc);have HDN:=Zh (fun hc=>hu.done (.inr hc));have HSW:=Zh (fun V (hV:Qba V G g (some ⟨gr,0,none⟩) gc gs n m c R' C S')=>Qkg V hV ka la kb lb);have HQ:=Zh hp;have HK:=Zh hk;have HW:=Zh hw;have HA:=Zh ha;have HKM:=Zh (Qom (r:=R') (i:=p) (j:=(p-1) / 2) (by omega) (by omega));have HLT:=Zh hw.lt;clear hw hp hu hk ha ka kb kc la lb lc
    go_wp2_with fail
    rw [show ((p:Int)-1) / 2=(((p-1) / 2:Nat):Int) by omega]
    with_reducible refine (HAH.out _ HW.out).mono ?_
    rintro e w' ⟨rfl,hb⟩;have hw':=HW.out.keep hb;have HW':=Zh hw';have HA':=Zh (HA.out.trans (Aft.below hb HLT.out));clear hw' hb HW HA HAH
    cases hah:hAh x y a b with
    | false =>
     have HO:=Zh (HDN.out (by rw [kd,ld];exact hAh_f hah))
     go_wp2_with fail
     go_end0
     exact ⟨rfl,R',S',HW'.out,HQ.out,HO.out,HK.out,HA'.out⟩
    | true =>
     have HS':=Zh (HST.out (by rw [kd,ld];exact hAh_t hah))
     go_wp2_with fail
     rw [show ((p:Int)-1) / 2=(((p-1) / 2:Nat):Int) by omega]
     with_reducible refine (HSW.out _ HW'.out).mono ?_
     rintro e w'' ⟨rfl,hw2,ha2⟩;have HW2:=Zh hw2;have HA2:=Zh (HA'.out.trans ha2);clear hw2 ha2 HW' HA' HSW
     go_wp2_with fail
     go_roundw
     case rel=>exact ⟨(p-1) / 2,_,_,by rw [show ((p:Int)-1) / 2=(((p-1) / 2:Nat):Int) by omega],by omega,HW2.out,HS'.out.1,by have:=HS'.out.2;rw [Qfb,hlr] at this;exact this,fun k=>(HKM.out k).trans (HK.out k),HA2.out⟩
     case measure=>simp [intOf];omega
set_option maxHeartbeats 2000000 in
theorem Qwr (w:World) (h:Qba w G g (some ⟨gr,0,none⟩) gc gs n m c R C S) (hp:HpS n R C S) (hd:Qhx (at_ R C) m 0) :
 Calls prog 162 #[.pointer (some ⟨g,0,none⟩),.int .i64 0] w fun e w'=>e=.returned (.tuple #[])∧∃ R' S',Qba w' G g (some ⟨gr,0,none⟩) gc gs n m c R' C S'∧HpS n R' C S'∧Ord (at_ R' C) m∧(∀ k,k∈R'↔k∈R)∧Aft G w w':=by
 have hcap:=h.cap;have hmn:m≤n:=by rw [←h.lr];exact hp.le
 have hn0:=h.n0;have HH:=Zh h;have HP:=Zh hp;have HD:=Zh hd;clear h hp hd
 go_enter func162,ntmps162
 go_wp2_with fail
 go_loopw [1] (fun q W=>∃ (p:Nat) (R' S':List Nat),q=.int .i64 p∧(p<m∨p=0)∧Qba W G g (some ⟨gr,0,none⟩) gc gs n m c R' C S'∧HpS n R' C S'∧Qhx (at_ R' C) m p∧(∀ k,k∈R'↔k∈R)∧Aft G w W) (fun q _=>m-(intOf q).toNat)
 case atStart=>exact ⟨0,R,S,rfl,.inr rfl,HH.out,HP.out,HD.out,fun _=>Iff.rfl,Aft.refl _ _⟩
 case round =>
  obtain ⟨p,R',S',rfl,hpm,hw,hp,hd,hk,ha⟩:=hrel;have hlr:=hw.lr;have HQ:=Zh hp;have HDD:=Zh hd;have HK:=Zh hk;have HA:=Zh ha;have HW:=Zh hw;clear hw hp hd hk ha
  go_wp2_with fail
  go_loopw [4,5] (fun x y W=>Below wr.heap.size wr W∧∃ l j:Nat,x=.int .i64 l∧y=.int .i64 j∧2*p+1≤j∧j≤2*p+3∧(l=p∨(2*p+1≤l∧l<j∧l<m))∧at_ R' C l≤at_ R' C p∧∀ i,2*p+1≤i→i<j→i<m→at_ R' C l≤at_ R' C i) (fun _ y _=>2*p+3-(intOf y).toNat)
  case atStart=>exact ⟨Zr _ _,p,2*p+1,rfl,by go_num,by omega,by omega,.inl rfl,Int.le_refl _,fun i h1 h2=>by omega⟩
  case round =>
   obtain ⟨hb,l,j,rfl,rfl,h1,h2,h3,h4,h5⟩:=hrel;have HB:=Zh hb;have hwV:=HW.out.keep hb;have f0:=hwV.f0
   by_cases hj:j≤2*p+2∧j<m
   · obtain ⟨hj2,hjm⟩:=hj
     have i1:(j:Int)≤2*(p:Int)+2:=by omega
     have i2:(j:Int)<(m:Int):=by omega
     obtain ⟨a,x,ka,kb,kc,kd⟩:=HQ.out.key (i:=j) (by omega);obtain ⟨b,y,la,lb,lc,ld⟩:=HQ.out.key (i:=l) (by omega);have HAH:=Zh (Qmb _ hwV ka la kc lc lb);have H4:=Zh h4;have H5:=Zh h5;clear hb hwV ka kb kc la lb lc h4 h5
     go_wp2_with fail
     with_reducible refine HAH.out.mono ?_
     rintro e w' ⟨rfl,hb'⟩;have HB':=Zh (HB.out.trans (hb'.mono HB.out.size));clear hb' HB HAH
     cases hah:hAh x y a b with
     | false =>
      have hle:=hAh_f hah
      go_wp2_with fail
      go_roundw
      case rel =>
       refine ⟨HB'.out,l,j+1,rfl,by go_num,by omega,by omega,by omega,H4.out,fun i g1 g2 g3=>?_⟩
       by_cases e:i=j
       · subst e;rw [kd,ld];exact hle
       · exact H5.out i g1 (by omega) g3
      case measure=>simp [intOf];omega
     | true =>
      have hle:=hAh_t hah
      go_wp2_with fail
      go_roundw
      case rel =>
       refine ⟨HB'.out,j,j+1,rfl,by go_num,by omega,by omega,by omega,?_,fun i g1 g2 g3=>?_⟩
       · have:=H4.out;omega
       · by_cases e:i=j
         · subst e;exact Int.le_refl _
         · have:=H5.out i g1 (by omega) g3;omega
      case measure=>simp [intOf];omega
   · have HDN:=Zh (show ∀ i,0<i→i<m→(i-1) / 2=p→at_ R' C l≤at_ R' C i from fun i g1 g2 g3=>h5 i (by omega) (by omega) g2)
     have HW':=Zh hwV;have HA':=Zh (HA.out.trans (Aft.below HB.out HW.out.lt));have HX:((2*(p:Int)+2<(j:Int))∨((j:Int)≤2*(p:Int)+2∧(m:Int)≤(j:Int))):=by omega
     clear hb hwV h5 HB HW HA
     by_cases hlp:l=p
     · subst hlp
       have HO:=Zh (HDD.out.done HDN.out)
       rcases HX with hx|⟨hx,hy⟩
       · have e1:decide ((j:Int)≤2*(l:Int)+2)=false:=by simp;omega
         go_wp2_with fail
         (try simp only [Exit.inBlock,Exit.then]);refine bodyPost_ret (results_none rfl _ _ _) rfl ?_
         exact ⟨rfl,R',S',HW'.out,HQ.out,HO.out,HK.out,HA'.out⟩
       · have e1:decide ((j:Int)<(m:Int))=false:=by simp;omega
         go_wp2_with fail
         (try simp only [Exit.inBlock,Exit.then]);refine bodyPost_ret (results_none rfl _ _ _) rfl ?_
         exact ⟨rfl,R',S',HW'.out,HQ.out,HO.out,HK.out,HA'.out⟩
     · obtain ⟨a,x,ka,kb,kc,kd⟩:=HQ.out.key (i:=p) (by omega)
       obtain ⟨b,y,la,lb,lc,ld⟩:=HQ.out.key (i:=l) (by omega);have HSW:=Zh (Qkg _ HW'.out ka la kb lb);have HST:=Zh (Qzp HQ.out (p:=p) (m:=l) (by rw [hlr];exact HDD.out) (by omega) (by omega) (by omega) h4 (by rw [hlr];exact HDN.out));have HKM:=Zh (Qom (r:=R') (i:=p) (j:=l) (by omega) (by omega));have hlp':¬(l:Int)=(p:Int):=by omega
       clear ka kb kc la lb lc
       rcases HX with hx|⟨hx,hy⟩
       · have e1:decide ((j:Int)≤2*(p:Int)+2)=false:=by simp;omega
         go_wp2_with fail
         with_reducible refine HSW.out.mono ?_
         rintro e w'' ⟨rfl,hw2,ha2⟩;have HW2:=Zh hw2;have HA2:=Zh (HA'.out.trans ha2);clear hw2 ha2 HW' HA' HSW
         go_wp2_with fail
         go_roundw
         case rel=>exact ⟨l,_,_,rfl,by omega,HW2.out,HST.out.1,by have:=HST.out.2;rw [Qfb,hlr] at this;exact this,fun k=>(HKM.out k).trans (HK.out k),HA2.out⟩
         case measure=>simp [intOf];omega
       · have e1:decide ((j:Int)<(m:Int))=false:=by simp;omega
         go_wp2_with fail
         with_reducible refine HSW.out.mono ?_
         rintro e w'' ⟨rfl,hw2,ha2⟩;have HW2:=Zh hw2;have HA2:=Zh (HA'.out.trans ha2);clear hw2 ha2 HW' HA' HSW
         go_wp2_with fail
         go_roundw
         case rel=>exact ⟨l,_,_,rfl,by omega,HW2.out,HST.out.1,by have:=HST.out.2;rw [Qfb,hlr] at this;exact this,fun k=>(HKM.out k).trans (HK.out k),HA2.out⟩
         case measure=>simp [intOf];omega
end
end Go.Proofs.YthoagdpakddbdaaGreatDoor
namespace Go.Proofs.YthoagdpakddbdaaGreatDoor
def Qrj (R:List Nat)(C:List Int)(k:Nat):Option Int:=if k∈R then C[k]? else none
section
variable {n k:Nat} {r st:List Nat} {cs:List Int} {x:Int}
theorem HpS.out (h:HpS n r cs st)(hk:k<n):st[k]?=some 0↔k ∉ r:=by
 obtain ⟨s,hs⟩:∃ s,st[k]?=some s:=⟨_,Qbl 0 (by rw [h.ls];exact hk)⟩
 constructor
 · intro h0 hm
   obtain ⟨i,hi⟩:=List.mem_iff_getElem?.1 hm;have:=(h.seat i k hi).2;rw [h0] at this
   injection this with this
   omega
 · intro hm
   rcases s with _|s
   · exact hs
   · exact absurd (List.mem_iff_getElem?.2 ⟨s,h.none_ k s hs⟩) hm
theorem HpS.in_ (h:HpS n r cs st)(hm:k∈r):∃ i,r[i]?=some k∧i<r.length∧k<n∧st[k]?=some (i+1):=by
 obtain ⟨i,hi⟩:=List.mem_iff_getElem?.1 hm;exact ⟨i,hi,(Zs hi).1,(h.seat i k hi).1,(h.seat i k hi).2⟩
theorem HpS.put (h:HpS n r cs st)(hk:k<n)(hn:k ∉ r):HpS n (r ++[k]) (cs.set k x) (st.set k (r.length+1)):=by
 refine ⟨by rw [Yq];exact h.lc,by rw [Yq];exact h.ls,fun i q hi=>?_,fun q i hq=>?_⟩
 · rw [List.getElem?_append] at hi
   by_cases hl:i<r.length
   · rw [if_pos hl] at hi
     have h1:=h.seat i q hi;have hne:k≠q:=fun e=>hn (e▸List.mem_iff_getElem?.2 ⟨i,hi⟩)
     exact ⟨h1.1,by rw [Yh hne];exact h1.2⟩
   · rw [if_neg hl] at hi
     have h2:i-r.length=0:=by
      rcases Nat.eq_zero_or_pos (i-r.length) with e|e
      · exact e
      · rw [Yd (by simp;omega)] at hi;cases hi
     rw [h2] at hi
     cases hi
     refine ⟨hk,?_⟩;rw [Yg (by rw [h.ls];exact hk)]
     congr 1
     omega
 · by_cases e:k=q
   · subst e
     rw [Yg (by rw [h.ls];exact hk)] at hq
     injection hq with hq
     have:i=r.length:=by omega
     subst this;simp
   · rw [Yh e] at hq
     have h1:=h.none_ q i hq;rw [Yc (Zs h1).1];exact h1
theorem at_put (hn:k ∉ r):∀ i,i<r.length→at_ (r ++[k]) (cs.set k x) i=at_ r cs i:=fun i hi=>by
 have h1:=Qbl 0 hi;have hne:k≠r.getD i 0:=fun e=>hn (List.mem_iff_getElem?.2 ⟨i,by rw [e];exact h1⟩)
 unfold at_;rw [Qcg (d:=0) (show (r ++[k])[i]?=some (r.getD i 0) by rw [Yc hi];exact h1),Ya,Yh hne,←Ya]
theorem ord_put (ho:Ord (at_ r cs) r.length) (hn:k ∉ r):UpO (at_ (r ++[k]) (cs.set k x)) (r.length+1) r.length:=ho.push (at_put hn)
theorem HpS.setC (h:HpS n r cs st):HpS n r (cs.set k x) st:=⟨by rw [Yq];exact h.lc,h.ls,h.seat,h.none_⟩
theorem ord_less (h:HpS n r cs st) (ho:Ord (at_ r cs) r.length) {i:Nat} (hi:r[i]?=some k) (hx:x≤at_ r cs i):UpO (at_ r (cs.set k x)) r.length i:=by
 have hl:=(Zs hi).1;have hk:=(h.seat i k hi).1;refine ho.lower (fun j hj hne=>?_) ?_ hl
 · have h1:=Qbl 0 hj
   have hne2:k≠r.getD j 0:=fun e=>hne (h.nodup (by rw [e];exact h1) hi)
   unfold at_;rw [Ya (l:=cs.set k x),Yh hne2,←Ya]
 · have:at_ r (cs.set k x) i=x:=by
    unfold at_;rw [Qcg hi];exact Qcg (by rw [Yg (by rw [h.lc];exact hk)])
   rw [this];exact hx
def Qvo (hp:Nat→Option Int)(k:Nat)(x:Int):Nat→Option Int:=fun q=>if q=k then some (match hp k with|none=>x|some y=>if y≤x then y else x) else hp q
theorem Qsu {r':List Nat}(hl:k<cs.length)(hm:∀ q,q∈r'↔q∈r∨q=k)(q:Nat):Qrj r' (cs.set k x) q=if q=k then some x else Qrj r cs q:=by
 unfold Qrj
 by_cases e:q=k
 · subst e
   rw [if_pos rfl,if_pos ((hm q).2 (.inr rfl)),Yg hl]
 · rw [if_neg e,Yh (fun e2=>e e2.symm)]
   by_cases hq:q∈r
   · rw [if_pos ((hm q).2 (.inl hq)),if_pos hq]
   · rw [if_neg (fun h=>((hm q).1 h).elim hq e),if_neg hq]
theorem Qxm {y:Int}(hy:Qrj r cs k=some y):k∈r∧cs[k]?=some y:=by
 unfold Qrj at hy
 by_cases hm:k∈r
 · rw [if_pos hm] at hy;exact ⟨hm,hy⟩
 · rw [if_neg hm] at hy;cases hy
theorem inAt_out (h:HpS n r cs st)(hy:Qrj r cs k=none):k ∉ r:=fun hm=>by
 unfold Qrj at hy;rw [if_pos hm] at hy;obtain ⟨i,_,_,hk,_⟩:=h.in_ hm;rw [Qbl 0 (by rw [h.lc];exact hk)] at hy
 cases hy
def putB (hp:Nat→Option Int)(k:Nat)(x:Int):Bool:=match hp k with|none=>true|some y=>!decide (y≤x)
theorem Qty (h:HpS n r cs st) (ho:Ord (at_ r cs) r.length) {y z:Int} {q:Nat} (hk:r[0]?=some k) (hx:cs[k]?=some y) (hq:Qrj r cs q=some z):y≤z:=by
 obtain ⟨hm,hz⟩:=Qxm hq;obtain ⟨i,hi,hl,_,_⟩:=h.in_ hm;have h1:=ho.root i hl;unfold at_ at h1;rw [Qcg hk,Qcg hi,Qcg hx,Qcg hz] at h1;exact h1
theorem HpS.pop {L:Nat}(h:HpS n r cs st)(hl:r.length=L+1) (hk:r[0]?=some k) :
 HpS n ((Qdt r 0 L).take L) cs ((Qjg r st 0 L).set k 0)∧(∀ q,q∈(Qdt r 0 L).take L↔q∈r∧q≠k)∧∀ i,0<i→i<L→at_ ((Qdt r 0 L).take L) cs i=at_ r cs i:=by
 have h1:=h.swap (i:=0) (j:=L) (by omega) (by omega);have hg:∀ x,(Qdt r 0 L)[x]?=if x=L then some k else if x=0 then r[L]? else r[x]?:=fun x=>by rw [Qdf (by omega) (by omega),hk]
 have hL:(Qdt r 0 L)[L]?=some k:=by rw [hg,if_pos rfl]
 have hlen:(Qdt r 0 L).length=L+1:=by rw [Qfb];exact hl
 have hkn:k<(Qjg r st 0 L).length:=by rw [h1.ls];exact (h.seat 0 k hk).1
 generalize hr1:Qdt r 0 L=r1 at *;generalize hs1:Qjg r st 0 L=s1 at *;refine ⟨⟨h1.lc,by rw [Yq];exact h1.ls,fun i q hi=>?_,fun q i hq=>?_⟩,fun q=>⟨fun hq=>?_,fun hq=>?_⟩,fun i h0 hi=>?_⟩
 · rw [List.getElem?_take] at hi
   by_cases hil:i<L
   · rw [if_pos hil] at hi
     have hne:k≠q:=fun e=>by rw [←e] at hi;have:=h1.nodup hi hL;omega
     rw [Yh hne];exact h1.seat i q hi
   · rw [if_neg hil] at hi;cases hi
 · by_cases e:k=q
   · subst e
     rw [Yg hkn] at hq
     injection hq with hq
     omega
   · rw [Yh e] at hq
     have h2:=h1.none_ q i hq;have hne:i≠L:=fun e2=>by rw [e2,hL] at h2;exact e (Yv h2)
     have:=(Zs h2).1;rw [List.getElem?_take,if_pos (by omega)];exact h2
 · obtain ⟨i,hi⟩:=List.mem_iff_getElem?.1 hq
   rw [List.getElem?_take] at hi
   by_cases hil:i<L
   · rw [if_pos hil] at hi
     refine ⟨?_,fun e=>by rw [e] at hi;have:=h1.nodup hi hL;omega⟩;have hi2:=hi;rw [hg,if_neg (by omega)] at hi2
     by_cases e:i=0
     · rw [if_pos e] at hi2;exact List.mem_iff_getElem?.2 ⟨_,hi2⟩
     · rw [if_neg e] at hi2;exact List.mem_iff_getElem?.2 ⟨_,hi2⟩
   · rw [if_neg hil] at hi;cases hi
 · obtain ⟨hm,hne⟩:=hq
   obtain ⟨i,hi⟩:=List.mem_iff_getElem?.1 hm;have hil:=(Zs hi).1;have hi0:i≠0:=fun e=>by rw [e,hk] at hi;exact hne (Yv hi).symm
   by_cases e:i=L
   · refine List.mem_iff_getElem?.2 ⟨0,?_⟩
     rw [List.getElem?_take,if_pos (by omega),hg,if_neg (by omega),if_pos rfl,←e];exact hi
   · refine List.mem_iff_getElem?.2 ⟨i,?_⟩
     rw [List.getElem?_take,if_pos (by omega),hg,if_neg e,if_neg hi0];exact hi
 · have h2:(r1.take L)[i]?=r[i]?:=by rw [List.getElem?_take,if_pos hi,hg,if_neg (by omega),if_neg (by omega)]
   unfold at_;rw [Ya (l:=r1.take L),h2,←Ya]
theorem HpS.popOrd {L:Nat}(h:HpS n r cs st) (ho:Ord (at_ r cs) (L+1)) (hl:r.length=L+1) (hk:r[0]?=some k):Qhx (at_ ((Qdt r 0 L).take L) cs) L 0:=ho.pop (h.pop hl hk).2.2
end
end Go.Proofs.YthoagdpakddbdaaGreatDoor
namespace Go.Proofs.YthoagdpakddbdaaGreatDoor
open Go.RowKit Go.Proofs.Tryz
attribute [local go_sem ↓] Go.wp_at_zero Go.wp_at_succ
theorem hp1_one (x:Int):∀ u∈[Value.int .i64 x],u.oneCell'=true:=Qam [x]
section
variable {G:Nat→Prop} {g gc gs n m c:Nat} {A:Option Addr} {R:List Nat} {C:List Int} {S:List Nat}
def Qdg (W:World)(G:Nat→Prop)(g n:Nat)(hp:Nat→Option Int):Prop :=
 ∃ (A:Option Addr) (gc gs m c:Nat) (R:List Nat) (C:List Int) (S:List Nat),Qba W G g A gc gs n m c R C S∧HpS n R C S∧Ord (at_ R C) m∧∀ k,hp k=Qrj R C k
theorem Qnd (w:World)(h:Qba w G g A gc gs n m c R C S)(k:Nat)(hk:k<n) :
 Calls prog 158 #[.pointer (some ⟨g,0,none⟩),.int .i64 k] w fun e w'=>e=.returned (.bool true)∧w=w':=by
 have f2:=h.f2;have i1:(0:Int)≤(k:Int):=by omega
 have i2:(k:Int)<(n:Int):=by omega
 clear h
 go_enter func158,ntmps158
 go_wp2_with fail
 go_ret
 exact ⟨rfl,rfl⟩
theorem Qhg (w:World)(x:Int)(h0:0≤x)(h1:x≤1152921504606846976) :
 Calls prog 159 #[.int .i64 x] w fun e w'=>e=.returned (.int .i64 x)∧w=w':=by
 have e1:decide (x<0)=false:=by simp;omega
 have e2:decide (1152921504606846976<x)=false:=by simp;omega
 go_enter func159,ntmps159
 go_wp2_with fail
 go_ret
 exact ⟨rfl,rfl⟩
theorem Qba.push {W w':World}{G:Nat→Prop}{g gc gs n m c c' k:Nat}{A A':Option Addr}{R:List Nat}{C:List Int}{S:List Nat}{o:Obj}(h:Qba W G g A gc gs n m c R C S)
 (hown:Own w' 0 3 1 A' (m+1) c' (Qad (nis R) ++[.int .i64 (k:Int)])) (hg:(W.alloc o).grownBy w' (Qaa A)) (hA:Qaa A'=Qaa A∨Qaa A'=some (W.alloc o).heap.size) :
 Qba (w'.setCell ⟨g,0,none⟩ (.slice A' (m+1) c')) G g A' gc gs n (m+1) c' (R ++[k]) C S∧Aft G W (w'.setCell ⟨g,0,none⟩ (.slice A' (m+1) c')):=by
 have hbl:Below W.heap.size W (W.alloc o):=(Zr _ _).alloc (Zn _) _;have hz:(W.alloc o).heap.size=W.heap.size+1:=by simp
 have k1:=h.keep hbl
 have hdA:∀ b,Qaa A'=some b→b≠g∧b≠gc∧b≠gs∧¬G b:=fun b hb=>by
  rcases hA with e|e
  · exact h.dA b (e.symm.trans hb)
  · rw [hb] at e
    injection e with e
    have l1:=h.blk.lt;have l2:=h.cs.lt;have l3:=h.ss.lt;exact ⟨by omega,by omega,by omega,fun hG=>by have:=h.lt b hG;omega⟩
 have hne:∀ b,(b=g∨b=gc∨b=gs∨G b)→Qaa A≠some b:=fun b hb e=>by
  obtain ⟨d1,d2,d3,d4⟩:=h.dA b e
  rcases hb with rfl|rfl|rfl|hb
  · exact d1 rfl
  · exact d2 rfl
  · exact d3 rfl
  · exact d4 hb
 have hb1:Blk w' g 269 #[.slice A m c,.slice (some ⟨gc,0,none⟩) n n,.slice (some ⟨gs,0,none⟩) n n]:=k1.blk.grown hg (hne g (.inl rfl));refine ⟨⟨?_,?_,(k1.cs.grown hg (hne gc (.inr (.inl rfl)))).far_ (fun e=>h.dg.1 e.symm) _,(k1.ss.grown hg (hne gs (.inr (.inr (.inl rfl))))).far_ (fun e=>h.dg.2.1 e.symm) _,hdA,h.dg,h.dG,fun b hb=>?_,by simp [h.lr],h.lc,h.ls,h.n0⟩,?_⟩
 · exact hb1.set_ 0 _
 · have:=hown.far (Qab w' g 0 (.slice A' (m+1) c')) (.inr fun e=>(hdA g e).1 rfl)
   rw [Qod,Qbi];exact this
 · have:=h.lt b hb
   have h2:=hg.size;simp only [World.setCell,Array.size_modify];omega
 · refine Aft.set ⟨?_,?_,fun B hB=>?_⟩ h.dG.1 _
   · exact (Qax.below (G:=G) hbl).trans (Qax.grown hg (fun b hb=>hne b (.inr (.inr (.inr hb))))) hbl.size
   · have h2:=hg.size
     omega
   · have hBz:B≤W.heap.size:=by
      rcases Nat.lt_or_ge W.heap.size B with hl|hl
      · exact absurd (h.lt _ (hB _ hl)) (by omega)
      · exact hl
     exact (hbl.mono hBz).trans (Below.grown (Zr _ _) hg (by omega) (fun b hb=>by
      rcases Nat.lt_or_ge b B with hl|hl
      · exact absurd hb (hne b (.inr (.inr (.inr (hB b hl)))))
      · exact hl))
set_option maxHeartbeats 2000000 in
theorem Qzi (w:World)(h:Qba w G g A gc gs n m c R C S)(hp:HpS n R C S) (ho:Ord (at_ R C) m) (k:Nat) (hk:k<n) (hn:k ∉ R) (x:Int) (h0:0≤x) (h1:x≤1152921504606846976) :
 Calls prog 135 #[.pointer (some ⟨g,0,none⟩),.int .i64 k,.int .i64 x] w fun e w'=>e=.returned (.bool true)∧(∃ (A':Option Addr) (c':Nat) (R' S':List Nat),Qba w' G g A' gc gs n (m+1) c' R' (C.set k x) S'∧HpS n R' (C.set k x) S'∧Ord (at_ R' (C.set k x)) (m+1)∧∀ q,q∈R'↔q∈R∨q=k)∧Aft G w w':=by
 have hlr:=h.lr;have hn0:=h.n0;have hmn:m≤n:=by rw [←h.lr];exact hp.le
 have f0:=h.f0;have f2:=h.f2;have s0:w.cell? ⟨gs,k,none⟩=some (.int .i64 0):=h.seatAt ((hp.out hk).2 hn);have i1:(0:Int)≤(k:Int):=by omega
 have i2:(k:Int)<(n:Int):=by omega
 have HK:=Zh (Qnd w h k hk);have HE:=Zh (Qhg w x h0 h1);have hbel:Below w.heap.size w (w.alloc (.cells #[.int .i64 (k:Int)] 3)):=(Zr _ _).alloc (Zn _) _;have hal:=h.keep hbel;have hrow:=hal.row;have g0:=hal.f0;have g2:=hal.f2;have hrd:=(Blk.new w 3 #[.int .i64 (k:Int)]).rds (s:=1) (m:=1) rfl;have HPU:=Zh (hp.put (x:=x) hk hn);have HOU:=Zh (ord_put (x:=x) (by rw [h.lr];exact ho) hn);have HH:=Zh h;have hzz:(w.alloc (.cells #[.int .i64 (k:Int)] 3)).frozen? ⟨g,0,none⟩=false:=hal.blk.frozen 0;clear h hp ho hal
 go_enter func135,ntmps135
 go_wp2_with fail
 with_reducible refine HK.out.mono ?_
 rintro e w' ⟨rfl,rfl⟩
 go_wp2_with fail
 with_reducible refine HE.out.mono ?_
 rintro e w' ⟨rfl,rfl⟩;clear HK HE
 go_wp2_with (at_builtin;with_reducible refine Qas rfl (.tmp 26) (.tmp 28) 93 rfl 3 _ 1 8 Qbk underlying93 rfl (by omega) rfl rfl hrow hrd (hp1_one _) (by omega) (by omega) (by simp) ?_)
 intro A' c' w' hown' hg hA;have hb1:Blk w' g 269 #[.slice A m c,.slice (some ⟨gc,0,none⟩) n n,.slice (some ⟨gs,0,none⟩) n n]:=(HH.out.keep hbel).blk.grown hg (fun e=>(HH.out.dA g e).1 rfl);have k0:w'.cell? ⟨g,0,none⟩=some (.slice A m c):=Zq hb1;have kf:w'.frozen? ⟨g,0,none⟩=false:=hb1.frozen 0;obtain ⟨hh1,ha1⟩:=HH.out.push hown' hg (by simpa using hA);have HH1:=Zh hh1;have HA1:=Zh ha1;clear hb1 hh1 ha1 hown' hg hA hrow hrd hbel g0 g2 hzz HH f0 f2 s0
 go_wp2_with fail
 obtain ⟨W1,hW1⟩:∃ W1,W1=w'.setCell ⟨g,0,none⟩ (.slice A' (m+1) c'):=⟨_,rfl⟩;rw [←hW1] at HH1 HA1;rw [←hW1];clear k0 kf hW1;have f0:=HH1.out.f0;have f2:=HH1.out.f2;have hcap:=HH1.out.cap;have s0:=HH1.out.seatAt (i:=k) (Qbl 0 (by rw [HH1.out.ls];exact hk));have fz:W1.frozen? ⟨gs,k,none⟩=false:=HH1.out.ss.frozen k;have hh2:=(HH1.out.setS (i:=k) (k:=m+1)).drew;have HH2:=Zh hh2;have HA2:=Zh ((HA1.out.set HH1.out.dG.2.2 (i:=k) (.int .i64 ((m+1:Nat):Int))).drew);clear hh2;refine Qbf 11 (S:=fun V=>V.cell? ⟨g,0,none⟩=some (.slice A' (m+1) c')∧V.cell? ⟨g,2,none⟩=some (.slice (some ⟨gs,0,none⟩) n n)) (by kernel_rfl) ⟨f0,f2⟩ (fun _=>?_);refine tkF 0 32 (h:=⟨_,tv,?_⟩);simp only [pE,List.set];refine tkF 1 33 (h:=⟨_,tv,?_⟩);simp only [pE,List.set];refine tkF 2 34 (h:=⟨_,tv,?_⟩);simp only [pE,List.set];refine tkK 3 35 (h:=⟨_,tv,?_⟩);simp only [pE,List.set];refine tkF 4 36 (h:=⟨_,tv,?_⟩);simp only [pE,List.set];refine tkF 5 37 (h:=⟨_,tv,?_⟩);simp only [pE,List.set];refine tkF 6 38 (h:=⟨_,tv,?_⟩);simp only [pE,List.set];refine tkF 7 39 (h:=⟨_,tv,?_⟩);simp only [pE,List.set];refine tkK 8 40 (h:=⟨_,tv,?_⟩);simp only [pE,List.set];refine tkF 9 41 (h:=⟨_,tv,?_⟩);simp only [pE,List.set];refine tkF 10 42 (h:=⟨_,tv,?_⟩);simp only [pE,List.set];refine Qbs (k:=11) (by kernel_rfl) rfl (fun K hK=>?_);go_simp;refine hK.out _ _ ?_;clear hK K;refine Qbm (by kernel_rfl) ?_ _;have e2:((m+1:Nat):Int)=(m:Int)+1:=by omega
 rw [e2] at HH2 HA2;have HSK:=Zh (show (S.set k (m+1))[k]?=some (m+1) by rw [Yg (by have:=HH1.out.ls;omega)])
 rw [hlr] at HPU HOU;clear f0 f2 s0 fz HH1 HA1 e2;obtain ⟨W2,hW2⟩:∃ W2,W2=(W1.setCell ⟨gs,k,none⟩ (.int .i64 ((m:Int)+1))).drew:=⟨_,rfl⟩;rw [←hW2] at HH2 HA2;rw [←hW2];clear hW2;obtain ⟨gr,hgr,hfr⟩:=HH2.out.rowBlk (by omega);subst hgr;have f1:=HH2.out.f1;have q0:=HH2.out.costAt (i:=k) (Qbl 0 (by rw [HH2.out.lc];exact hk));have z1:W2.frozen? ⟨gc,k,none⟩=false:=HH2.out.cs.frozen k;have hh3:=HH2.out.setC (i:=k) (x:=x);have HH3:=Zh hh3;have HA3:=Zh (HA2.out.set HH2.out.dG.2.1 (i:=k) (.int .i64 x));have f2:=hh3.f2;have s2:=hh3.seatAt HSK.out;have e7:IntKind.i64.wrap (((m+1:Nat):Int)-1)=(m:Int):=by rw [show ((m+1:Nat):Int)-1=(m:Int) by omega];exact IntWalk.i64_in _ (by omega)
 have HUP:=Zh (Qym _ hh3 HPU.out m (by omega) HOU.out);clear hh3
 go_wp2_with fail
 with_reducible refine HUP.out.mono ?_
 rintro e w3 ⟨rfl,R',S',hw3,hp3,ho3,hk3,ha3⟩;have HW4:=Zh hw3;have HA4:=Zh (HA3.out.trans ha3);have HP4:=Zh hp3;have HO4:=Zh ho3;have HK4:=Zh hk3;clear hw3 ha3 hp3 ho3 hk3
 go_wp2_with fail
 go_ret
 exact ⟨rfl,⟨_,_,R',S',HW4.out,HP4.out,HO4.out,fun q=>by rw [HK4.out q];simp⟩,HA4.out⟩
set_option maxHeartbeats 2000000 in
theorem Que (w:World)(h:Qba w G g A gc gs n m c R C S)(hp:HpS n R C S)(k i:Nat)(hk:k<n) (hi:R[i]?=some k) (x y:Int) (h0:0≤x) (h1:x≤1152921504606846976) (hy:C[k]?=some y) (hxy:y≤x) :
 Calls prog 135 #[.pointer (some ⟨g,0,none⟩),.int .i64 k,.int .i64 x] w fun e w'=>e=.returned (.bool false)∧w=w':=by
 have hn0:=h.n0;have f2:=h.f2;have f1:=h.f1;have e8:((i+1:Nat):Int)≠0:=by omega
 have s0:w.cell? ⟨gs,k,none⟩=some (.int .i64 ((i+1:Nat):Int)):=h.seatAt (hp.seat i k hi).2;have q0:=h.costAt hy;have i1:(0:Int)≤(k:Int):=by omega
 have i2:(k:Int)<(n:Int):=by omega
 have HK:=Zh (Qnd w h k hk);have HE:=Zh (Qhg w x h0 h1);clear h hp
 go_enter func135,ntmps135
 go_wp2_with fail
 with_reducible refine HK.out.mono ?_
 rintro e w' ⟨rfl,rfl⟩
 go_wp2_with fail
 with_reducible refine HE.out.mono ?_
 rintro e w' ⟨rfl,rfl⟩;clear HK HE
 go_wp2_with fail
 go_ret
 exact ⟨rfl,rfl⟩
set_option maxHeartbeats 2000000 in
theorem Qur (w:World)(h:Qba w G g A gc gs n m c R C S)(hp:HpS n R C S) (ho:Ord (at_ R C) m) (k i:Nat) (hk:k<n) (hi:R[i]?=some k) (x y:Int) (h0:0≤x) (h1:x≤1152921504606846976) (hy:C[k]?=some y) (hxy:x<y) :
 Calls prog 135 #[.pointer (some ⟨g,0,none⟩),.int .i64 k,.int .i64 x] w fun e w'=>e=.returned (.bool true)∧(∃ (A':Option Addr) (c':Nat) (R' S':List Nat),Qba w' G g A' gc gs n m c' R' (C.set k x) S'∧HpS n R' (C.set k x) S'∧Ord (at_ R' (C.set k x)) m∧∀ q,q∈R'↔q∈R)∧Aft G w w':=by
 have hlr:=h.lr;have hil:=(Zs hi).1;have hmn:m≤n:=by rw [←h.lr];exact hp.le
 have hat:at_ R C i=y:=by unfold at_;rw [Qcg hi];exact Qcg hy
 have hn0:=h.n0;have f2:=h.f2;have f1:=h.f1;have e8:((i+1:Nat):Int)≠0:=by omega
 have s0:w.cell? ⟨gs,k,none⟩=some (.int .i64 ((i+1:Nat):Int)):=h.seatAt (hp.seat i k hi).2;have q0:=h.costAt hy;have i1:(0:Int)≤(k:Int):=by omega
 have i2:(k:Int)<(n:Int):=by omega
 have HK:=Zh (Qnd w h k hk);have HE:=Zh (Qhg w x h0 h1);have HSK:=Zh (hp.seat i k hi).2;have HPU:=Zh (hp.setC (k:=k) (x:=x));have HOU:=Zh (ord_less (x:=x) hp (by rw [h.lr];exact ho) hi (by omega));have HH2:=Zh h;have HA2:=Zh (Aft.refl G w);have hcap:=h.cap;rw [hlr] at HOU;clear h hp ho;clear f1 f2 s0 q0;have s0:w.cell? ⟨gs,k,none⟩=some (.int .i64 ((i+1:Nat):Int)):=HH2.out.seatAt HSK.out;have g2:=HH2.out.f2;obtain ⟨gr,hgr,hfr⟩:=HH2.out.rowBlk (by omega);subst hgr;have f1:=HH2.out.f1;have q0:=HH2.out.costAt (i:=k) (Qbl 0 (by rw [HH2.out.lc];exact hk));have z1:w.frozen? ⟨gc,k,none⟩=false:=HH2.out.cs.frozen k;have hh3:=HH2.out.setC (i:=k) (x:=x);have HH3:=Zh hh3;have HA3:=Zh (HA2.out.set HH2.out.dG.2.1 (i:=k) (.int .i64 x));have f2:=hh3.f2;have s2:=hh3.seatAt HSK.out;have e7:IntKind.i64.wrap (((i+1:Nat):Int)-1)=(i:Int):=by rw [show ((i+1:Nat):Int)-1=(i:Int) by omega];exact IntWalk.i64_in _ (by omega)
 have HUP:=Zh (Qym _ hh3 HPU.out i (by omega) HOU.out);clear hh3;have q1:y=C.getD k 0:=(Qcg hy).symm;rw [←q1] at q0;clear q1
 go_enter func135,ntmps135
 go_wp2_with fail
 with_reducible refine HK.out.mono ?_
 rintro e w' ⟨rfl,rfl⟩
 go_wp2_with fail
 with_reducible refine HE.out.mono ?_
 rintro e w' ⟨rfl,rfl⟩;clear HK HE
 go_wp2_with fail
 with_reducible refine HUP.out.mono ?_
 rintro e w3 ⟨rfl,R',S',hw3,hp3,ho3,hk3,ha3⟩;have HW4:=Zh hw3;have HA4:=Zh (HA3.out.trans ha3);have HP4:=Zh hp3;have HO4:=Zh ho3;have HK4:=Zh hk3;clear hw3 ha3 hp3 ho3 hk3
 go_wp2_with fail
 go_ret
 exact ⟨rfl,⟨_,_,R',S',HW4.out,HP4.out,HO4.out,HK4.out⟩,HA4.out⟩
theorem Qtg (w:World)(hp:Nat→Option Int)(h:Qdg w G g n hp)(k:Nat)(hk:k<n)(x:Int)(h0:0≤x)(h1:x≤1152921504606846976) :
 Calls prog 135 #[.pointer (some ⟨g,0,none⟩),.int .i64 k,.int .i64 x] w fun e w'=>e=.returned (.bool (putB hp k x))∧Qdg w' G g n (Qvo hp k x)∧Aft G w w':=by
 obtain ⟨A,gc,gs,m,c,R,C,S,hw,hs,ho,hin⟩:=h;have hkc:k<C.length:=by rw [hs.lc];exact hk
 cases hv:hp k with
 | none =>
  have hn:k ∉ R:=inAt_out hs ((hin k).symm.trans hv);refine (Qzi w hw hs ho k hk hn x h0 h1).mono ?_;rintro e w' ⟨rfl,⟨A',c',R',S',k1,k2,k3,k4⟩,ha⟩;refine ⟨by simp [putB,hv],⟨A',gc,gs,m+1,c',R',_,S',k1,k2,k3,fun q=>?_⟩,ha⟩;rw [Qsu hkc k4];unfold Qvo
  by_cases e:q=k
  · rw [if_pos e,if_pos e,hv]
  · rw [if_neg e,if_neg e];exact hin q
 | some y =>
  obtain ⟨hm,hy⟩:=Qxm ((hin k).symm.trans hv);obtain ⟨i,hi,_,_,_⟩:=hs.in_ hm
  by_cases hxy:y≤x
  · refine (Que w hw hs k i hk hi x y h0 h1 hy hxy).mono ?_
    rintro e w' ⟨rfl,rfl⟩;refine ⟨by simp [putB,hv,hxy],⟨A,gc,gs,m,c,R,C,S,hw,hs,ho,fun q=>?_⟩,Aft.refl _ _⟩;unfold Qvo
    by_cases e:q=k
    · rw [if_pos e,hv,e,←hin k,hv]
      simp [hxy]
    · rw [if_neg e];exact hin q
  · refine (Qur w hw hs ho k i hk hi x y h0 h1 hy (by omega)).mono ?_
    rintro e w' ⟨rfl,⟨A',c',R',S',k1,k2,k3,k4⟩,ha⟩;refine ⟨by simp [putB,hv];omega,⟨A',gc,gs,m,c',R',_,S',k1,k2,k3,fun q=>?_⟩,ha⟩;rw [Qsu hkc (r:=R) (fun q=>by rw [k4 q];exact ⟨.inl,fun h=>h.elim id (fun e=>e▸hm)⟩)];unfold Qvo
    by_cases e:q=k
    · rw [if_pos e,if_pos e,hv];simp [hxy]
    · rw [if_neg e,if_neg e];exact hin q
end
end Go.Proofs.YthoagdpakddbdaaGreatDoor
