/- Rows of ints in a row of the call's own, all of it the call's own. -/
import Derived.Test.YtgkeolddpielpaaGreatG2
namespace Go.Proofs.YtgkeolddpielpaaGreat
open Go.RowKit

def RwL (W : World) (B : Nat) (A : Option Addr) (n c : Nat) (xs : List Value) (ls : List (List Int)) : Prop :=
  Own W B 36 1 A n c xs ∧ ls.length = n ∧ ∀ (j : Nat) (l : List Int), ls[j]? = some l → ∃ (A2 : Option Addr) (n2 c2 : Nat), xs[j]? = some (Value.slice A2 n2 c2) ∧ RdI W A2 n2 l ∧ (∀ g, blkOf A2 = some g → B ≤ g ∧ g < W.heap.size ∧ blkOf A ≠ some g) ∧ n2 ≤ c2 ∧ c2 ≤ 9223372036854775807
theorem RwL.nil (W : World) (B : Nat) : RwL W B none 0 0 [] [] := ⟨Own.nil _ _ _ _, rfl, fun j l h => by simp at h⟩
theorem RwL.rdT {W : World} {B n c : Nat} {A : Option Addr} {xs : List Value} {ls : List (List Int)} (h : RwL W B A n c xs ls) : RdT W A n ls :=
  ⟨h.2.1, fun i t ht => by
    obtain ⟨A2, n2, c2, h1, h4, _, h5, h6⟩ := h.2.2 i t ht
    obtain ⟨b, o, e, k1⟩ := h.1.rds.2 _ _ h1
    exact ⟨b, o, A2, n2, c2, e, k1, h4, h5, h6⟩⟩
theorem RwL.rdM {W : World} {G : Nat → Prop} {B n c : Nat} {A : Option Addr} {xs : List Value} {ls : List (List Int)} (h : RwL W B A n c xs ls) (hG : ∀ b, B ≤ b → b < W.heap.size → G b) : RdT (msk W G) A n ls :=
  ⟨h.2.1, fun i t ht => by
    obtain ⟨A2, n2, c2, h1, h4, hl, h5, h6⟩ := h.2.2 i t ht
    obtain ⟨b, o, e, k1⟩ := h.1.rds.2 _ _ h1
    have hb := h.1.lt b (by rw [e]; rfl)
    exact ⟨b, o, A2, n2, c2, e, msk_cell.2 ⟨hG b hb.1 hb.2, k1⟩, h4.msk (fun g hg => hG g (hl g hg).1 (hl g hg).2.1), h5, h6⟩⟩
theorem RwL.push {W w' : World} {B n c c' m d : Nat} {A A' R : Option Addr} {xs : List Value} {ls : List (List Int)} {t : List Int} (h : RwL W B A n c xs ls)
    (hown : Own w' B 36 1 A' (n + 1) c' (xs ++ [.slice R m d])) (hg : W.grownBy w' (blkOf A)) (hat : blkOf A' = blkOf A ∨ blkOf A' = some W.heap.size)
    (hr : RdI W R m t) (hne : ∀ g, blkOf R = some g → B ≤ g ∧ g < W.heap.size ∧ blkOf A ≠ some g) (h4 : m ≤ d) (h5 : d ≤ 9223372036854775807) : RwL w' B A' (n + 1) c' (xs ++ [.slice R m d]) (ls ++ [t]) := by
  have hxl : xs.length = ls.length := by rw [h.1.1, h.2.1, Nat.mul_one]
  have new : ∀ Y : Option Addr, (∀ g, blkOf Y = some g → B ≤ g ∧ g < W.heap.size ∧ blkOf A ≠ some g) → ∀ g, blkOf Y = some g → B ≤ g ∧ g < w'.heap.size ∧ blkOf A' ≠ some g := fun Y hY g e => by
    obtain ⟨k0, k1, k2⟩ := hY g e
    refine ⟨k0, Nat.lt_of_lt_of_le k1 hg.size, fun e2 => ?_⟩
    rcases hat with hat | hat
    · exact k2 (by rw [← hat]; exact e2)
    · rw [hat] at e2
      injection e2 with e2
      omega
  refine ⟨hown, by simp [h.2.1], fun j t' hl => ?_⟩
  rcases Nat.lt_trichotomy j ls.length with hj | hj | hj
  · rw [List.getElem?_append_left hj] at hl
    obtain ⟨A2, n2, c2, p1, k2, k3, k4, k5⟩ := h.2.2 j t' hl
    exact ⟨A2, n2, c2, by rw [List.getElem?_append_left (by omega)]; exact p1, k2.grownN hg (fun g e => (k3 g e).2.2), new A2 k3, k4, k5⟩
  · subst hj
    rw [List.getElem?_append_right (Nat.le_refl _), Nat.sub_self] at hl
    cases hl
    refine ⟨R, m, d, ?_, hr.grownN hg (fun g e => (hne g e).2.2), new R hne, h4, h5⟩
    rw [← hxl, List.getElem?_append_right (Nat.le_refl _), Nat.sub_self]; rfl
  · rw [List.getElem?_eq_none (by simp; omega)] at hl
    cases hl
theorem RwL.below {W W' : World} {B n c : Nat} {A : Option Addr} {xs : List Value} {ls : List (List Int)} (h : RwL W B A n c xs ls) (hb : Below W.heap.size W W') : RwL W' B A n c xs ls :=
  ⟨h.1.below hb, h.2.1, fun i l hl => by
    obtain ⟨A', n', c', p1, h2, h3, h4, h5⟩ := h.2.2 i l hl
    exact ⟨A', n', c', p1, h2.below hb, fun g hg => ⟨(h3 g hg).1, Nat.lt_of_lt_of_le (h3 g hg).2.1 hb.size, (h3 g hg).2.2⟩, h4, h5⟩⟩
theorem RwL.far {W W' : World} {B n c : Nat} {A : Option Addr} {xs : List Value} {ls : List (List Int)} (h : RwL W B A n c xs ls) {g : Nat} (hg : W.grownBy W' (some g)) (hB : g < B) : RwL W' B A n c xs ls :=
  ⟨h.1.far hg (.inr (fun e => by have := (h.1.lt g e).1; omega)), h.2.1, fun i l hl => by
    obtain ⟨A', n', c', p1, h2, h3, h4, h5⟩ := h.2.2 i l hl
    refine ⟨A', n', c', p1, h2.grownN hg (fun k hk e => ?_), fun k hk => ⟨(h3 k hk).1, Nat.lt_of_lt_of_le (h3 k hk).2.1 hg.size, (h3 k hk).2.2⟩, h4, h5⟩
    cases e
    have := (h3 g hk).1
    omega⟩
theorem slice1_one (R : Option Addr) (m d : Nat) : ∀ u ∈ [Value.slice R m d], u.oneCell' = true := slice_one R m d
attribute [local go_sem ↓] Go.wp_at_zero Go.wp_at_succ
set_option maxHeartbeats 400000 in
theorem fresh_any (A : Option Addr) (n c : Nat) (l : List Int) (w : World) (h : RdI w A n l) (hn : n ≤ 1000000) :
    Calls Tryz.prog 40 #[.slice A n c] w fun e w' => ∃ A2 c2, e = .returned (.slice A2 n c2) ∧ Own w' w.heap.size 3 1 A2 n c2 (icells l) ∧ Below w.heap.size w w' := by
  have hr := h.rdsI
  have hown := Own.nil w w.heap.size 1 3
  clear h
  go_enter Tryz.func40, Tryz.ntmps40
  go_wp2_with (at_builtin; with_reducible refine wpList_app rfl (.const (.slice none 0 0)) (.tmp 3) 36 rfl 3 _ 1 8 infoInt Tryz.underlying36 rfl (by omega) rfl rfl hown hr (icells_one _) (by omega) (by omega) (by omega) ?_)
  intro A' c' w' hown' hg _
  have hb := Bel.grownOwn (Below.refl w.heap.size w) hg hown (Nat.le_refl _)
  try simp only [Nat.zero_add, List.nil_append] at hown'
  have HO := Lib.hid hown'
  clear hown' hg hown hr
  go_wp2
  go_ret
  exact ⟨_, _, rfl, HO.out, hb⟩
end Go.Proofs.YtgkeolddpielpaaGreat
