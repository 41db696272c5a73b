/- law17.known. -/
import Derived.Test.YtgkeolddpielpaaGreatWh
import Derived.Test.YtgkeolddpielpaaGreatAt
import Derived.Test.YtgkeolddpielpaaGreatRi
import Derived.Test.YtgkeolddpielpaaGreatKo
import Derived.Test.YtgkeolddpielpaaGreatOd
import Derived.Test.YtgkeolddpielpaaGreatMd
namespace Go.Proofs.YtgkeolddpielpaaGreat
open Go.RowKit

attribute [local go_sem ↓] Go.wp_at_zero Go.wp_at_succ

theorem k_gr1 : gateRow ringN.ar [0, 0, 1] = [([2], [1]), ([1], [2])] := by decide
theorem k_gr2 : gateRow ringN.ar [0, 0, 0] = [([], [])] := by decide
theorem k_gates : gatesOf ringN.ar twoL = [[([2], [1]), ([1], [2])], [([], [])]] := by
  unfold gatesOf twoL
  rw [List.map_cons, List.map_cons, List.map_nil, k_gr1, k_gr2]
theorem k_sum : sumA (gatesOf ringN.ar twoL) = 2 := by rw [k_gates]; decide
theorem k_kids : kidsOf [0, 0, 0] [0, 0, 1] 0 3 = [0, 1] := by
  refine rise_ext (kidsOf_lt _ _ _ _) (by decide) (fun x => ?_)
  rw [mem_kidsOf (by rfl) (by rfl)]
  constructor
  · rintro ⟨v, _, h2⟩
    have hv : v < 3 := (List.getElem?_eq_some_iff.1 h2).1
    rcases (by omega : v = 0 ∨ v = 1 ∨ v = 2) with rfl | rfl | rfl <;> (simp at h2; subst h2; simp)
  · intro h
    rcases List.mem_cons.1 h with rfl | h
    · exact ⟨0, rfl, rfl⟩
    · rcases List.mem_cons.1 h with rfl | h
      · exact ⟨2, rfl, rfl⟩
      · cases h
section
variable (o : Nat) (w : World) (h : RdOv w o ringN.ar twoL)
include h
theorem k_size : Calls Tryz.prog 27 #[.pointer (some ⟨o, 0, none⟩)] w fun e w' => e = .returned (.int .i64 2) ∧ w = w' := by
  have := oSize_any o _ _ w h
  rw [k_sum] at this
  exact this
theorem k_levels : Calls Tryz.prog 10 #[.pointer (some ⟨o, 0, none⟩)] w fun e w' => e = .returned (.int .i64 2) ∧ w = w' := oLevels_any o _ _ w h
theorem k_cells1 : Calls Tryz.prog 11 #[.pointer (some ⟨o, 0, none⟩), .int .i64 1] w fun e w' => e = .returned (.int .i64 2) ∧ w = w' := oCells_ok o 0 2 _ _ [0, 0, 1] w h rfl (by decide) (by decide)
theorem k_cells3 : Calls Tryz.prog 11 #[.pointer (some ⟨o, 0, none⟩), .int .i64 3] w fun e w' => e = .returned (.int .i64 0) ∧ w = w' := oCells_no o 2 _ _ w h (by decide) (by decide)
theorem k_at0 : Calls Tryz.prog 30 #[.pointer (some ⟨o, 0, none⟩), .int .i64 1, .int .i64 0, .int .i64 0, .int .i64 0] w fun e w' => e = .returned (.int .i64 0) ∧ Below w.heap.size w w' := by
  have := at_ok o 0 0 0 0 _ _ [0, 0, 1] ([2], [1]) w h rfl (by rw [k_gr1]; rfl) (by decide) (by decide) (by decide) (by rw [k_sum]; decide)
  rw [k_gates, k_gr1] at this
  exact this
theorem k_at1 : Calls Tryz.prog 30 #[.pointer (some ⟨o, 0, none⟩), .int .i64 1, .int .i64 1, .int .i64 0, .int .i64 0] w fun e w' => e = .returned (.int .i64 1) ∧ Below w.heap.size w w' := by
  have := at_ok o 0 1 0 0 _ _ [0, 0, 1] ([1], [2]) w h rfl (by rw [k_gr1]; rfl) (by decide) (by decide) (by decide) (by rw [k_sum]; decide)
  rw [k_gates, k_gr1] at this
  exact this
theorem k_at2 : Calls Tryz.prog 30 #[.pointer (some ⟨o, 0, none⟩), .int .i64 2, .int .i64 0, .int .i64 0, .int .i64 0] w fun e w' => e = .returned (.int .i64 (-1)) ∧ Below w.heap.size w w' :=
  at_no o 1 0 0 0 _ _ [0, 0, 0] ([], []) w h rfl (by rw [k_gr2]; rfl) (by decide) (by decide)
theorem k_where1 : Calls Tryz.prog 28 #[.pointer (some ⟨o, 0, none⟩), .int .i64 1] w fun e w' => e = .returned (.tuple #[.agg #[.int .i64 1, .int .i64 1, .int .i64 0, .int .i64 0], .bool true]) ∧ Below w.heap.size w w' := by
  have := where_ok o 0 1 0 0 _ _ [0, 0, 1] ([1], [2]) w h rfl (by rw [k_gr1]; rfl) (by decide) (by decide) (by decide) (by rw [k_sum]; decide) (by decide)
  rw [k_gates, k_gr1] at this
  exact this
theorem k_where2 : Calls Tryz.prog 28 #[.pointer (some ⟨o, 0, none⟩), .int .i64 2] w fun e w' => e = .returned (.tuple #[.agg #[.int .i64 0, .int .i64 0, .int .i64 0, .int .i64 0], .bool false]) ∧ Below w.heap.size w w' :=
  where_no o 2 _ _ w h (.inr (by rw [k_sum]; decide))
theorem k_down : Calls Tryz.prog 14 #[.pointer (some ⟨o, 0, none⟩), .int .i64 2, .int .i64 0, .int .i64 0] w fun e w' => e = .returned (.tuple #[.int .i64 (-1), .int .i64 (-1)]) ∧ Below w.heap.size w w' :=
  oDownIn_no o 0 0 0 _ _ [0, 0, 0] ([], []) w h rfl (by decide) (by rw [k_gr2]; rfl) (by decide) (by decide)
theorem k_kids2 : Calls Tryz.prog 13 #[.pointer (some ⟨o, 0, none⟩), .int .i64 2, .int .i64 0] w fun e w' => ∃ A c, e = .returned (.slice A 2 c) ∧ RdI w' A 2 [0, 1] ∧ Below w.heap.size w w' := by
  have := oKids_ok o 0 3 0 _ _ [0, 0, 0] [0, 0, 1] w h rfl rfl (by decide) rfl rfl (by decide) (by decide)
  rw [k_kids] at this
  exact this
theorem k_gate : Calls Tryz.prog 12 #[.pointer (some ⟨o, 0, none⟩), .int .i64 1, .int .i64 1] w fun e w' => ∃ A1 n1 c1 A2 n2 c2, e = .returned (.agg #[.slice A1 n1 c1, .slice A2 n2 c2]) ∧ RdI w' A1 n1 [1] ∧ RdI w' A2 n2 [2] ∧ Below w.heap.size w w' :=
  oGate_ok o 0 1 _ _ [0, 0, 1] ([1], [2]) w h rfl (by decide) (by rw [k_gr1]; rfl) (by decide)
end
end Go.Proofs.YtgkeolddpielpaaGreat
