/- Sums of first parts; where an entry lies: the plain part. -/
import Derived.Test.YtgkeolddpielpaaGreatOg
namespace Go.Proofs.YtgkeolddpielpaaGreat

theorem sum_take_le (l : List Nat) : ∀ {a b : Nat}, a ≤ b → (l.take a).sum ≤ (l.take b).sum := by
  induction l with
  | nil => intro a b _; simp
  | cons x t ih =>
    intro a b h
    cases a with
    | zero => simp
    | succ a =>
      cases b with
      | zero => omega
      | succ b =>
        have := ih (a := a) (b := b) (by omega)
        simp only [List.take_succ_cons, List.sum_cons]
        omega
theorem sumS_mono (row : List GateD) {a b : Nat} (h : a ≤ b) : sumS (row.take a) ≤ sumS (row.take b) := by
  unfold sumS
  rw [List.map_take, List.map_take]
  exact sum_take_le _ h
theorem sumA_mono (gs : List (List GateD)) {a b : Nat} (h : a ≤ b) : sumA (gs.take a) ≤ sumA (gs.take b) := by
  unfold sumA
  rw [List.map_take, List.map_take]
  exact sum_take_le _ h
theorem sumS_all (row : List GateD) (a : Nat) : sumS (row.take a) ≤ sumS row := by
  have := sumS_mono row (a := a) (b := max a row.length) (by omega)
  rw [List.take_of_length_le (l := row) (i := max a row.length) (by omega)] at this
  exact this
theorem sumA_all (gs : List (List GateD)) (a : Nat) : sumA (gs.take a) ≤ sumA gs := by
  have := sumA_mono gs (a := a) (b := max a gs.length) (by omega)
  rw [List.take_of_length_le (l := gs) (i := max a gs.length) (by omega)] at this
  exact this
/-- The number of an entry. -/
def enAt (gs : List (List GateD)) (row : List GateD) (i c : Nat) (x : GateD) (a b : Nat) : Nat := sumA (gs.take i) + sumS (row.take c) + (a * x.2.length + b)
theorem enAt_lt {gs : List (List GateD)} {row : List GateD} {i c a b : Nat} {x : GateD} (hx : row[c]? = some x) (ha : a < x.1.length) (hb : b < x.2.length) : enAt gs row i c x a b < sumA (gs.take i) + sumS (row.take (c + 1)) := by
  unfold enAt
  rw [sumS_next hx]
  have : a * x.2.length + b < szG x := by
    unfold szG
    have h1 : (a + 1) * x.2.length ≤ x.1.length * x.2.length := Nat.mul_le_mul_right _ ha
    rw [Nat.add_mul, Nat.one_mul] at h1
    omega
  omega
theorem enAt_lt2 {gs : List (List GateD)} {row : List GateD} {i c a b : Nat} {x : GateD} (hr : gs[i]? = some row) (hx : row[c]? = some x) (ha : a < x.1.length) (hb : b < x.2.length) : enAt gs row i c x a b < sumA (gs.take (i + 1)) := by
  have h := enAt_lt (gs := gs) (i := i) hx ha hb
  have h2 := sumS_all row (c + 1)
  rw [sumA_next hr]
  omega
end Go.Proofs.YtgkeolddpielpaaGreat
