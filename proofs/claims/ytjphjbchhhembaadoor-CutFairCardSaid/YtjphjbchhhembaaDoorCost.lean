/- cost.Held, cost.Add, roundsmanref6.Held, .Add; tables; At, fault. -/
import Derived.Test.YtjphjbchhhembaaDoorErr
import Derived.Deep.QuietTactic
import Derived.BigQuiet
namespace Go.Proofs.YtjphjbchhhembaaDoor
open Go.RowKit

/-- A slice of roundsmanref6.Part reads as ps. -/
def RdW (w : World) (A : Option Addr) (n : Nat) (l : List (ByteArray × Int)) : Prop :=
  l.length = n ∧ ∀ i x, l[i]? = some x → ∃ b o, A = some ⟨b, o, none⟩ ∧ w.cell? ⟨b, o + i * 2, none⟩ = some (.string x.1) ∧ w.cell? ⟨b, o + i * 2 + 1, none⟩ = some (.int .i64 x.2)
theorem RdW.below {w w' : World} {A : Option Addr} {n : Nat} {l : List (ByteArray × Int)} (h : RdW w A n l) (hb : Below w.heap.size w w') : RdW w' A n l :=
  ⟨h.1, fun i x hx => by obtain ⟨b, o, e, hc, hd⟩ := h.2 i x hx; exact ⟨b, o, e, Below.cellOf hb (Nat.le_refl _) hc, Below.cellOf hb (Nat.le_refl _) hd⟩⟩

theorem ret_int {k : IntKind} {a b : Int} (h : a = b) : Ending.returned (.int k a) = .returned (.int k b) := by rw [h]
theorem ret_bool {a b : Bool} (h : a = b) : Ending.returned (.bool a) = .returned (.bool b) := by rw [h]

def INF : Int := 1152921504606846976
def held (a : Int) : Int := if a < 0 then 0 else if a > INF then INF else a
def add2 (a b : Int) : Int := held (held a + held b)
theorem held_lo (a : Int) : 0 ≤ held a := by unfold held INF; split <;> (try split) <;> omega
theorem held_hi (a : Int) : held a ≤ INF := by unfold held INF; split <;> (try split) <;> omega
theorem held_id {a : Int} (h : 0 ≤ a) (h' : a ≤ INF) : held a = a := by unfold held; unfold INF at *; split <;> (try split) <;> omega
theorem add2_lo (a b : Int) : 0 ≤ add2 a b := held_lo _
theorem add2_hi (a b : Int) : add2 a b ≤ INF := held_hi _
theorem add2_eq {a b : Int} (h : 0 ≤ a) (h' : a ≤ INF) (g : 0 ≤ b) (g' : b ≤ INF) : add2 a b = min (a + b) INF := by
  unfold add2
  rw [held_id h h', held_id g g']
  unfold held
  split <;> (try split) <;> omega

theorem held1 {a : Int} (h : a < 0) : held a = 0 := by unfold held; rw [if_pos h]
theorem held2 {a : Int} (h : a > 1152921504606846976) : held a = 1152921504606846976 := by unfold held INF; rw [if_neg (by omega), if_pos h]
theorem held3 {a : Int} (h : 0 ≤ a) (g : a ≤ 1152921504606846976) : held a = a := held_id h g

theorem refHeld_any (a : Int) (w : World) : Calls Tryd.prog 69 #[.int .i64 a] w fun e w' => e = .returned (.int .i64 (held a)) ∧ w = w' := by
  by_cases h1 : a < 0
  · have e := Lib.hid (held1 h1)
    go_enter Tryd.func69, Tryd.ntmps69
    go_wp2
    go_ret
    exact ⟨ret_int e.out.symm, rfl⟩
  · by_cases h2 : a > 1152921504606846976
    · have e := Lib.hid (held2 h2)
      go_enter Tryd.func69, Tryd.ntmps69
      go_wp2
      go_ret
      exact ⟨ret_int e.out.symm, rfl⟩
    · have e := Lib.hid (held3 (by omega) (by omega : a ≤ 1152921504606846976))
      go_enter Tryd.func69, Tryd.ntmps69
      go_wp2
      go_ret
      exact ⟨ret_int e.out.symm, rfl⟩
theorem costHeld_any (a : Int) (w : World) : Calls Tryd.prog 84 #[.int .i64 a] w fun e w' => e = .returned (.int .i64 (held a)) ∧ w = w' := by
  by_cases h1 : a < 0
  · have e := Lib.hid (held1 h1)
    go_enter Tryd.func84, Tryd.ntmps84
    go_wp2
    go_ret
    exact ⟨ret_int e.out.symm, rfl⟩
  · by_cases h2 : a > 1152921504606846976
    · have e := Lib.hid (held2 h2)
      go_enter Tryd.func84, Tryd.ntmps84
      go_wp2
      go_ret
      exact ⟨ret_int e.out.symm, rfl⟩
    · have e := Lib.hid (held3 (by omega) (by omega : a ≤ 1152921504606846976))
      go_enter Tryd.func84, Tryd.ntmps84
      go_wp2
      go_ret
      exact ⟨ret_int e.out.symm, rfl⟩
theorem refAdd_any (a b : Int) (w : World) : Calls Tryd.prog 41 #[.int .i64 a, .int .i64 b] w fun e w' => e = .returned (.int .i64 (add2 a b)) ∧ w = w' := by
  have a1 := held_lo a
  have a2 := held_hi a
  have b1 := held_lo b
  have b2 := held_hi b
  unfold INF at a2 b2
  have hw : IntKind.i64.wrap (held a + held b) = held a + held b := IntWalk.i64_in _ (by omega)
  have HE := Lib.hid (show add2 a b = held (held a + held b) from rfl)
  have c1 := Lib.hid (show ∀ a W, Calls Tryd.prog 69 #[.int .i64 a] W fun e w' => e = .returned (.int .i64 (held a)) ∧ W = w' from refHeld_any)
  go_enter Tryd.func41, Tryd.ntmps41
  go_wp2_with (go_at_call 69; refine (c1.out _ _).mono ?_; rintro e w' ⟨rfl, rfl⟩)
  go_ret
  exact ⟨ret_int HE.out.symm, rfl⟩
theorem costAdd_any (a b : Int) (w : World) : Calls Tryd.prog 61 #[.int .i64 a, .int .i64 b] w fun e w' => e = .returned (.int .i64 (add2 a b)) ∧ w = w' := by
  have a1 := held_lo a
  have a2 := held_hi a
  have b1 := held_lo b
  have b2 := held_hi b
  unfold INF at a2 b2
  have hw : IntKind.i64.wrap (held a + held b) = held a + held b := IntWalk.i64_in _ (by omega)
  have HE := Lib.hid (show add2 a b = held (held a + held b) from rfl)
  have c1 := Lib.hid (show ∀ a W, Calls Tryd.prog 84 #[.int .i64 a] W fun e w' => e = .returned (.int .i64 (held a)) ∧ W = w' from costHeld_any)
  go_enter Tryd.func61, Tryd.ntmps61
  go_wp2_with (go_at_call 84; refine (c1.out _ _).mono ?_; rintro e w' ⟨rfl, rfl⟩)
  go_ret
  exact ⟨ret_int HE.out.symm, rfl⟩

/-- job.fault, roundsmanref6.At. -/
theorem jobFault_any (s : ByteArray) (k c : Int) (w : World) : Calls Tryd.prog 62 #[.string s, .int .i64 k, .int .i64 c] w fun e w' => ∃ v, e = .returned v ∧ Chain w' v [(s, k)] c ∧ Below w.heap.size w w' := by
  go_enter Tryd.func62, Tryd.ntmps62
  go_wp2
  go_ret
  refine ⟨_, rfl, ⟨w.heap.size, 0, errV c, rfl, ?_, ?_, ?_, rfl⟩, (by repeat (first | exact Below.refl _ _ | assumption | apply Below.drew | apply below_drewN | apply Bel.alloc | (refine Bel.setCell_ ?_ ?_; rotate_left; omega) | (refine Bel.step ?_ (by assumption))))⟩
  all_goals simp

/-- A Wrong that tells ps and c. -/
def Wrg (w : World) (v : Value) (ps : List (ByteArray × Int)) (c : Int) : Prop := ∃ A n m, v = .agg #[.slice A n m, .int .i64 c] ∧ RdW w A n ps ∧ n ≤ 1000000
theorem Wrg.below {w w' : World} {v : Value} {ps : List (ByteArray × Int)} {c : Int} (h : Wrg w v ps c) (hb : Below w.heap.size w w') : Wrg w' v ps c := by
  obtain ⟨A, n, m, h1, h2, h3⟩ := h
  exact ⟨A, n, m, h1, h2.below hb, h3⟩
theorem refAt_any (s : ByteArray) (k c : Int) (w : World) : Calls Tryd.prog 29 #[.string s, .int .i64 k, .int .i64 c] w fun e w' => ∃ v, e = .returned v ∧ Wrg w' v [(s, k)] c ∧ Below w.heap.size w w' := by
  go_enter Tryd.func29, Tryd.ntmps29
  go_wp2
  refine bodyPost_ret (v := .agg #[.slice (some ⟨w.heap.size + 1, 0, none⟩) 1 1, .int .i64 c]) (by simp [results, Tryd.results29, go_sem]) rfl ?_
  refine ⟨_, rfl, ⟨_, 1, 1, rfl, ⟨rfl, fun i x hx => ?_⟩, by omega⟩, (by repeat (first | exact Below.refl _ _ | assumption | apply Below.drew | apply below_drewN | apply Bel.alloc | (refine Bel.setCell_ ?_ ?_; rotate_left; omega) | (refine Bel.step ?_ (by assumption))))⟩
  match i, hx with
  | 0, hx => cases hx; exact ⟨_, _, rfl, by simp, by simp⟩
  | i + 1, hx => simp at hx
end Go.Proofs.YtjphjbchhhembaaDoor
