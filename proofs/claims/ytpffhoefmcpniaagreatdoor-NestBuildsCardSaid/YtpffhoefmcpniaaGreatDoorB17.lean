/- Parts of the proof: Ks, NeN. -/
import Derived.Test.YtpffhoefmcpniaaGreatDoorB1
import Derived.Test.YtpffhoefmcpniaaGreatDoorB2
import Derived.Test.YtpffhoefmcpniaaGreatDoorB16
namespace Go.Proofs.YtpffhoefmcpniaaGreatDoor
open Go.RowKit

section
variable {P : Program} {ops : Array Oper} {Q : Exit → Act → World → Prop} {md : Region.Mode} {S : World → Prop} {k : Nat}
def wpAnyK (P : Program) (md : Region.Mode) (ops : Array Oper) (Q : Exit → Act → World → Prop) (S : World → Prop) (k : Nat) : Nat → Array Bool → Act → World → Prop
 | 0, listed, a, w => Region.ready md ops listed = [] ∧ Q .normal a w
 | fuel + 1, listed, a, w =>
  (Region.ready md ops listed = [] → Q .normal a w) ∧
  ∀ i ∈ Region.ready md ops listed, wpOp P ops Q i (fun a' w' => if i = k then wpAny P md ops Q fuel (listed.setIfInBounds i true) a' w' else S w' ∧ wpAnyK P md ops Q S k fuel (listed.setIfInBounds i true) a' w') a w
theorem wpAny_of_K : ∀ (fuel : Nat) (listed : Array Bool) (a : Act) (w : World), wpAnyK P md ops Q S k fuel listed a w → wpAny P md ops Q fuel listed a w
 | 0, _, _, _, h => h
 | fuel + 1, _, _, _, h => ⟨h.1, fun i hi => wpOp_mono (fun a' w' h' => by
  by_cases e : i = k
  · rw [if_pos e] at h'; exact h'
  · rw [if_neg e] at h'; exact wpAny_of_K fuel _ a' w' h'.2) (h.2 i hi)⟩
def waitsFor (md : Region.Mode) (ops : Array Oper) (k i : Nat) : Bool := (ops[k]?).elim false fun o => o.after.any fun e => Region.binds md e && e.on == i
theorem waits_not {i : Nat} {listed : Array Bool} (h : waitsFor md ops k i = true) (hi : i ∈ Region.ready md ops listed) : k ∉ Region.ready md ops listed := by
 intro hk
 obtain ⟨_, o, ho, hall⟩ := mem_ready.1 hk
 unfold waitsFor at h
 rw [ho] at h
 simp only [Option.elim, Array.any_eq_true', Bool.and_eq_true, beq_iff_eq] at h
 obtain ⟨e, he, hb, hon⟩ := h
 have h1 := hall e he hb
 have h0 := (mem_ready.1 hi).1
 rw [hon] at h1
 simp only [Array.getD_eq_getD_getElem?] at h0 h1
 cases hx : listed[i]? with
 | none => rw [hx] at h0; cases h0
 | some b => rw [hx] at h0 h1; simp at h0 h1; rw [h0] at h1; cases h1
theorem wpAnyK_first {i : Nat} {oi : Oper} {v : Value} (hi : ops[i]? = some oi) (hsel : ∀ (j : Nat) (o : Oper) cs b, ops[j]? = some o → o.op ≠ .select cs b)
 (hQ : ∀ c a w, Q (.panic c) (a.put oi.dst v) w → Q (.panic c) a w) (hwk : waitsFor md ops k i = true) (hik : i ≠ k) :
 ∀ (fuel : Nat) (listed : Array Bool) (a : Act) (w : World),
  (∀ j oj, ops[j]? = some oj → j ≠ i → listed.getD j true = false → (∀ e ∈ oj.after, Region.binds md e = true → e.on ≠ i) → oi.apart ops oj = true) →
  i ∈ Region.ready md ops listed → YieldsIf P ops S oi v a → S w →
  wpAnyK P md ops Q S k fuel (listed.setIfInBounds i true) (a.put oi.dst v) w → wpAnyK P md ops Q S k (fuel + 1) listed a w := by
 intro fuel
 induction fuel with
 | zero =>
  intro listed a w _ hr hy hS H
  refine ⟨fun h => (by rw [h] at hr; cases hr), fun j hj => ?_⟩
  by_cases hji : j = i
  · subst hji
    refine hy.wpOp hi hS ?_
    rw [if_neg hik]
    exact ⟨hS, H⟩
  · have := ready_mono hj hji
    rw [H.1] at this
    cases this
 | succ fuel ih =>
  intro listed a w hfree hr hy hS H
  refine ⟨fun h => (by rw [h] at hr; cases hr), fun j hj => ?_⟩
  by_cases hji : j = i
  · subst hji
    refine hy.wpOp hi hS ?_
    rw [if_neg hik]
    exact ⟨hS, H⟩
  · have hjk : j ≠ k := fun e => waits_not hwk hr (e ▸ hj)
    have h1 := H.2 j (ready_mono hj hji)
    obtain ⟨hjun, oj, hoj, hall⟩ := mem_ready.1 hj
    have hnot : ∀ e ∈ oj.after, Region.binds md e = true → e.on ≠ i := fun e he hb heq => by
     refine waits_not (k := j) (i := i) ?_ hr hj
     unfold waitsFor
     rw [hoj]
     simp only [Option.elim, Array.any_eq_true', Bool.and_eq_true, beq_iff_eq]
     exact ⟨e, he, hb, heq⟩
    have h2 := wpOp_putIf hoj (hfree j oj hoj hji hjun hnot) (fun cs b => hsel i oi cs b hi) (fun cs b => hsel j oj cs b hoj) hQ hy h1
    have hfree' : ∀ q oq, ops[q]? = some oq → q ≠ i → (listed.setIfInBounds j true).getD q true = false →
     (∀ e ∈ oq.after, Region.binds md e = true → e.on ≠ i) → oi.apart ops oq = true := fun q oq hq hqi hun hno => by
     refine hfree q oq hq hqi ?_ hno
     by_cases hjq : j = q
     · subst hjq; exact hjun
     · rw [getD_set_ne true hjq] at hun; exact hun
    refine wpOp_mono (fun a' w' h3 => ?_) h2
    rw [if_neg hjk] at h3 ⊢
    refine ⟨h3.2.1, ih (listed.setIfInBounds j true) a' w' hfree' (ready_mono hr (Ne.symm hji)) h3.1 h3.2.1 ?_⟩
    rw [Array.setIfInBounds_comm _ _ hji]
    exact h3.2.2
theorem takeK_ {i : Nat} {oi : Oper} {d : Option Tmp} {v : Value} {fuel : Nat} {listed : Array Bool} {a : Act} {w : World} (hi : ops[i]? = some oi) (hd : oi.dst = d)
 (hwk : waitsFor md ops k i = true) (hik : (i == k) = false) (hs : Region.noSelect ops = true) (hf : Region.free md ops listed i = true) (hr : (Region.ready md ops listed).contains i = true)
 (hQ : ∀ c a w, Q (.panic c) (a.put oi.dst v) w → Q (.panic c) a w) (hw : Region.wanted oi (yielded ops a.tmps) = true) (hy : ∀ w, S w → (execOp a.eval oi).run P w = .ok (.value v) w) (hS : S w)
 (h : wpAnyK P md ops Q S k fuel (listed.setIfInBounds i true) (a.put d v) w) : wpAnyK P md ops Q S k (fuel + 1) listed a w := by
 subst hd
 exact wpAnyK_first hi (Region.noSelect_spec hs) hQ hwk (by simpa using hik) fuel listed a w (Region.free_spec hi hf) (by simpa using hr) (Or.inl ⟨hw, hy⟩) hS h
theorem wpAnyK_free {i : Nat} {oi : Oper} {v : Value} (hi : ops[i]? = some oi) (hsel : ∀ (j : Nat) (o : Oper) cs b, ops[j]? = some o → o.op ≠ .select cs b)
 (hQ : ∀ c a w, Q (.panic c) (a.put oi.dst v) w → Q (.panic c) a w) (hik : i ≠ k) :
 ∀ (fuel : Nat) (listed : Array Bool) (a : Act) (w : World),
  (∀ j oj, ops[j]? = some oj → j ≠ i → listed.getD j true = false → (∀ e ∈ oj.after, Region.binds md e = true → e.on ≠ i) → oi.apart ops oj = true) →
  i ∈ Region.ready md ops listed → YieldsIf P ops (fun _ => True) oi v a → S w →
  wpAnyK P md ops Q S k fuel (listed.setIfInBounds i true) (a.put oi.dst v) w → wpAnyK P md ops Q S k (fuel + 1) listed a w := by
 intro fuel
 induction fuel with
 | zero =>
  intro listed a w _ hr hy hS H
  refine ⟨fun h => (by rw [h] at hr; cases hr), fun j hj => ?_⟩
  by_cases hji : j = i
  · subst hji
    refine hy.wpOp hi trivial ?_
    rw [if_neg hik]
    exact ⟨hS, H⟩
  · have := ready_mono hj hji
    rw [H.1] at this
    cases this
 | succ fuel ih =>
  intro listed a w hfree hr hy hS H
  refine ⟨fun h => (by rw [h] at hr; cases hr), fun j hj => ?_⟩
  by_cases hji : j = i
  · subst hji
    refine hy.wpOp hi trivial ?_
    rw [if_neg hik]
    exact ⟨hS, H⟩
  · have h1 := H.2 j (ready_mono hj hji)
    obtain ⟨hjun, oj, hoj, hall⟩ := mem_ready.1 hj
    have hnot : ∀ e ∈ oj.after, Region.binds md e = true → e.on ≠ i := fun e he hb heq => by
     refine waits_not (k := j) (i := i) ?_ hr hj
     unfold waitsFor
     rw [hoj]
     simp only [Option.elim, Array.any_eq_true', Bool.and_eq_true, beq_iff_eq]
     exact ⟨e, he, hb, heq⟩
    have h2 := wpOp_putIf hoj (hfree j oj hoj hji hjun hnot) (fun cs b => hsel i oi cs b hi) (fun cs b => hsel j oj cs b hoj) hQ hy h1
    have hfree' : ∀ q oq, ops[q]? = some oq → q ≠ i → (listed.setIfInBounds j true).getD q true = false →
     (∀ e ∈ oq.after, Region.binds md e = true → e.on ≠ i) → oi.apart ops oq = true := fun q oq hq hqi hun hno => by
     refine hfree q oq hq hqi ?_ hno
     by_cases hjq : j = q
     · subst hjq; exact hjun
     · rw [getD_set_ne true hjq] at hun; exact hun
    refine wpOp_mono (fun a' w' h3 => ?_) h2
    by_cases hjk : j = k
    · rw [if_pos hjk] at h3 ⊢
      refine wpAny_first hi hsel hQ fuel (listed.setIfInBounds j true) a' w' hfree' (ready_mono hr (Ne.symm hji)) (h3.1.imp (fun ⟨ha, hb⟩ => ⟨ha, fun w => hb w trivial⟩) id) ?_
      rw [Array.setIfInBounds_comm _ _ hji]
      exact h3.2
    · rw [if_neg hjk] at h3 ⊢
      refine ⟨h3.2.1, ih (listed.setIfInBounds j true) a' w' hfree' (ready_mono hr (Ne.symm hji)) h3.1 h3.2.1 ?_⟩
      rw [Array.setIfInBounds_comm _ _ hji]
      exact h3.2.2
theorem takeF_ {i : Nat} {oi : Oper} {d : Option Tmp} {v : Value} {fuel : Nat} {listed : Array Bool} {a : Act} {w : World} (hi : ops[i]? = some oi) (hd : oi.dst = d)
 (hik : (i == k) = false) (hs : Region.noSelect ops = true) (hf : Region.free md ops listed i = true) (hr : (Region.ready md ops listed).contains i = true)
 (hQ : ∀ c a w, Q (.panic c) (a.put oi.dst v) w → Q (.panic c) a w) (hw : Region.wanted oi (yielded ops a.tmps) = true) (hy : ∀ w, True → (execOp a.eval oi).run P w = .ok (.value v) w) (hS : S w)
 (h : wpAnyK P md ops Q S k fuel (listed.setIfInBounds i true) (a.put d v) w) : wpAnyK P md ops Q S k (fuel + 1) listed a w := by
 subst hd
 exact wpAnyK_free hi (Region.noSelect_spec hs) hQ (by simpa using hik) fuel listed a w (Region.free_spec hi hf) (by simpa using hr) (Or.inl ⟨hw, hy⟩) hS h
theorem tkK (i d : Nat) {oi : Oper} {fuel : Nat} {listed : Array Bool} {a : Act} {w : World} (hi : ops[i]? = some oi := by rfl) (hd : oi.dst = some d := by rfl) (hwk : waitsFor md ops k i = true := by kernel_rfl) (hik : (i == k) = false := by rfl) (hs : Region.noSelect ops = true := by kernel_rfl)
 (hf : Region.free md ops listed i = true := by kernel_rfl) (hr : (Region.ready md ops listed).contains i = true := by kernel_rfl) (hQ : ∀ c a w v, Q (.panic c) (a.put oi.dst v) w → Q (.panic c) a w := by exact fun _ _ _ _ h => h) (hw : Region.wanted oi (yielded ops a.tmps) = true := by rfl) (hS : S w := by first | rfl | trivial | assumption)
 (h : ∃ v, (∀ w, S w → (execOp a.eval oi).run P w = .ok (.value v) w) ∧ wpAnyK P md ops Q S k fuel (listed.setIfInBounds i true) (a.put (some d) v) w) : wpAnyK P md ops Q S k (fuel + 1) listed a w := by
 obtain ⟨v, h1, h2⟩ := h
 exact takeK_ (i := i) (d := some d) (v := v) hi hd hwk hik hs hf hr (fun c a w => hQ c a w v) hw h1 hS h2
theorem tkF (i d : Nat) {oi : Oper} {fuel : Nat} {listed : Array Bool} {a : Act} {w : World} (hi : ops[i]? = some oi := by rfl) (hd : oi.dst = some d := by rfl) (hik : (i == k) = false := by rfl) (hs : Region.noSelect ops = true := by kernel_rfl)
 (hf : Region.free md ops listed i = true := by kernel_rfl) (hr : (Region.ready md ops listed).contains i = true := by kernel_rfl) (hQ : ∀ c a w v, Q (.panic c) (a.put oi.dst v) w → Q (.panic c) a w := by exact fun _ _ _ _ h => h) (hw : Region.wanted oi (yielded ops a.tmps) = true := by rfl) (hS : S w := by first | rfl | trivial | assumption)
 (h : ∃ v, (∀ w, True → (execOp a.eval oi).run P w = .ok (.value v) w) ∧ wpAnyK P md ops Q S k fuel (listed.setIfInBounds i true) (a.put (some d) v) w) : wpAnyK P md ops Q S k (fuel + 1) listed a w := by
 obtain ⟨v, h1, h2⟩ := h
 exact takeF_ (i := i) (d := some d) (v := v) hi hd hik hs hf hr (fun c a w => hQ c a w v) hw h1 hS h2
theorem wpAnyK_at {o : Oper} {fuel : Nat} {listed : Array Bool} {a : Act} {w : World} (hr : Region.ready md ops listed = [k]) (ho : ops[k]? = some o)
 (h : ∀ K' : Act → World → Prop, Shut (∀ a w, wpAny P md ops Q fuel (listed.setIfInBounds k true) a w → K' a w) → if Region.wanted o (yielded ops a.tmps) = true then Oper.wp P o a w K' Q else K' (a.put o.dst undef) w) :
 wpAnyK P md ops Q S k (fuel + 1) listed a w := by
 refine ⟨fun h0 => (by rw [hr] at h0; cases h0), fun j hj => ?_⟩
 rw [hr] at hj
 obtain rfl : j = k := by simpa using hj
 refine wpOp_step ho (fun K' hK => h K' (fun a w hW => hK a w ?_))
 rw [if_pos rfl]
 exact hW
theorem wpAnyK_one {i : Nat} {o : Oper} {fuel : Nat} {listed : Array Bool} {a : Act} {w : World} (hr : Region.ready md ops listed = [i]) (hik : (i == k) = false) (ho : ops[i]? = some o)
 (h : ∀ K' : Act → World → Prop, Shut (∀ a w, S w → (S w → wpAnyK P md ops Q S k fuel (listed.setIfInBounds i true) a w) → K' a w) → if Region.wanted o (yielded ops a.tmps) = true then Oper.wp P o a w K' Q else K' (a.put o.dst undef) w) :
 wpAnyK P md ops Q S k (fuel + 1) listed a w := by
 refine ⟨fun h0 => (by rw [hr] at h0; cases h0), fun j hj => ?_⟩
 rw [hr] at hj
 obtain rfl : j = i := by simpa using hj
 refine wpOp_step ho (fun K' hK => h K' (fun a w hS hW => hK a w ?_))
 rw [if_neg (by simpa using hik)]
 exact ⟨hS, hW hS⟩
theorem wpAny_over {listed : Array Bool} {a : Act} {w : World} (hr : Region.ready md ops listed = []) (h : Q .normal a w) : ∀ fuel, wpAny P md ops Q fuel listed a w
 | 0 => ⟨hr, h⟩
 | _ + 1 => ⟨fun _ => h, by rw [hr]; simp⟩
theorem wp_region_K (k : Nat) {id : Nat} {a : Act} {w : World} (hm : P.follows .mixedOrders = true) (hS : S w.drew)
 (h : S w.drew → wpAnyK P .any ops Q S k ops.size (Array.replicate ops.size false) a w.drew) : (Code.region id ops true).wp P Q a w :=
 wp_region_any hm (wpAny_of_K _ _ _ _ (h hS))
end
end Go.Proofs.YtpffhoefmcpniaaGreatDoor

namespace Go.Proofs.YtpffhoefmcpniaaGreatDoor
open Go.RowKit

attribute [local go_sem ↓] Go.wp_at_zero Go.wp_at_succ

theorem lst_ex {P : Nat → Prop} : ∀ n : Nat, P n → ∃ k, P k ∧ ∀ j, P j → k ≤ j := by
 intro n
 induction n using Nat.strongRecOn with
 | ind n ih =>
  intro hn
  by_cases h : ∃ m, m < n ∧ P m
  · obtain ⟨m, h1, h2⟩ := h
    exact ih m h1 h2
  · exact ⟨n, hn, fun j hj => Nat.le_of_not_lt (fun hlt => h ⟨j, hlt, hj⟩)⟩
open Classical in
noncomputable def lst (P : Nat → Prop) : Nat := if h : ∃ k, P k ∧ ∀ j, P j → k ≤ j then h.choose else 0
theorem lst_spec {P : Nat → Prop} (h : ∃ k, P k) : P (lst P) := by
 have h2 : ∃ k, P k ∧ ∀ j, P j → k ≤ j := by obtain ⟨n, hn⟩ := h; exact lst_ex n hn
 unfold lst
 rw [dif_pos h2]
 exact h2.choose_spec.1
theorem lst_le {P : Nat → Prop} {k : Nat} (h : P k) : lst P ≤ k := by
 have h2 : ∃ k, P k ∧ ∀ j, P j → k ≤ j := lst_ex k h
 unfold lst
 rw [dif_pos h2]
 exact h2.choose_spec.2 k h
theorem lst_get {P : Nat → Prop} (h : ∃ k, P k) : ∃ k, lst P = k ∧ P k := ⟨_, rfl, lst_spec h⟩
theorem OwQ.setB {w : World} {B n c : Nat} {e : TypeId} {A : Option Addr} {xs : List Value} (h : OwQ w B e A n c xs) {g i : Nat} (hg : g < B) (v : Value) : OwQ (w.setCell ⟨g, i, none⟩ v) B e A n c xs :=
 ⟨h.1, h.2.imp id (fun ⟨g', o, cur, e1, e2, e3, r⟩ => ⟨g', o, cur, e1, e2, e3.far_ (by omega) v, r⟩)⟩
theorem roomF_end {e : Edg} {x u y : Int} (h : roomF e x u = some y) : y = e.1 ∨ y = e.2 := by
 unfold roomF at h
 split at h
 · cases h
 split at h
 · cases h; exact .inr rfl
 split at h
 · cases h; exact .inl rfl
 · cases h
def RoomPost (a b x u : Int) (w : World) (e : Ending) (w' : World) : Prop := Below w.heap.size w w' ∧ ((roomF (a, b) x u = none ∧ e = .returned (.tuple #[.int .i64 0, .bool false])) ∨ ∃ v, roomF (a, b) x u = some v ∧ e = .returned (.tuple #[.int .i64 v, .bool true]))
theorem refRoom_any (a b x u : Int) (w : World) :
 Calls Tryz.prog 126 #[.agg #[.int .i64 a, .int .i64 b], .int .i64 x, .int .i64 u] w (RoomPost a b x u w) := by
 unfold RoomPost
 by_cases h1 : a = b
 · subst h1
   have e1 : (a == a) = true := by simp
   go_enter Tryz.func126, Tryz.ntmps126
   go_wp2
   go_ret2
   exact ⟨bELt, .inl ⟨by simp [roomF], rfl⟩⟩
 have e1 : (a == b) = false := beq_eq_false_iff_ne.2 h1
 by_cases g1 : a = u
 · subst g1
   have e2 : (a == a) = true := by simp
   have e5 : (b == a) = false := beq_eq_false_iff_ne.2 (fun q => h1 q.symm)
   by_cases g2 : x = 1
   · subst g2
     go_enter Tryz.func126, Tryz.ntmps126
     go_wp2
     go_ret2
     exact ⟨bELt, .inl ⟨by simp [roomF, h1]; exact fun q => absurd q.symm h1, rfl⟩⟩
   · have e3 : (x != 1) = true := by simpa using g2
     go_enter Tryz.func126, Tryz.ntmps126
     go_wp2
     go_ret2
     exact ⟨bELt, .inr ⟨b, by simp [roomF, h1, g2], rfl⟩⟩
 have e2 : (a == u) = false := beq_eq_false_iff_ne.2 g1
 by_cases g3 : b = u
 · subst g3
   have e4 : (b == b) = true := by simp
   by_cases g4 : x = -1
   · subst g4
     go_enter Tryz.func126, Tryz.ntmps126
     go_wp2
     go_ret2
     exact ⟨bELt, .inl ⟨by simp [roomF, h1], rfl⟩⟩
   · have e3 : (x != -1) = true := by simpa using g4
     go_enter Tryz.func126, Tryz.ntmps126
     go_wp2
     go_ret2
     exact ⟨bELt, .inr ⟨a, by simp [roomF, h1, g4], rfl⟩⟩
 · have e4 : (b == u) = false := beq_eq_false_iff_ne.2 g3
   go_enter Tryz.func126, Tryz.ntmps126
   go_wp2
   go_ret2
   exact ⟨bELt, .inl ⟨by simp [roomF, h1, g1, g3], rfl⟩⟩
end Go.Proofs.YtpffhoefmcpniaaGreatDoor
