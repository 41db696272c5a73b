/- General lemmas on rows and blocks (out of the texts of the Save chapter; for seats that do not have these). -/
import Derived.Test.YtjphjbchhhembaaDoorTells
import Derived.Test.YtjphjbchhhembaaDoorApp
import Derived.Laws.CopyOwn
namespace Go.Proofs.YtjphjbchhhembaaDoor
open Go.RowKit

theorem infoInt : (Tryd.prog.info? 3).map (fun i => (i.zero, i.size, i.bytes)) = some (some (.int .i64 0), 1, 8) := by kernel_rfl
/-- A slice of slices of ints reads as ls. -/
def RdT (w : World) (A : Option Addr) (n : Nat) (ls : List (List Int)) : Prop :=
  ls.length = n ∧ ∀ i l, ls[i]? = some l → ∃ b o A' n' c', A = some ⟨b, o, none⟩ ∧ w.cell? ⟨b, o + i, none⟩ = some (.slice A' n' c') ∧ RdI w A' n' l ∧ n' ≤ c' ∧ c' ≤ 9223372036854775807
theorem RdT.at_ {w : World} {A : Option Addr} {n i : Nat} {ls : List (List Int)} (h : RdT w A n ls) (hi : i < n) :
    ∃ b o A' n' c' l, A = some ⟨b, o, none⟩ ∧ ls[i]? = some l ∧ w.cell? ⟨b, o + i, none⟩ = some (.slice A' n' c') ∧ RdI w A' n' l ∧ n' ≤ c' ∧ c' ≤ 9223372036854775807 := by
  have hl : i < ls.length := by rw [h.1]; exact hi
  obtain ⟨b, o, A', n', c', h1, h2, h3, h4, h5⟩ := h.2 i _ (List.getElem?_eq_getElem hl)
  exact ⟨b, o, A', n', c', _, h1, List.getElem?_eq_getElem hl, h2, h3, h4, h5⟩
theorem RdT.below {w w' : World} {A : Option Addr} {n : Nat} {ls : List (List Int)} (h : RdT w A n ls) (hb : Below w.heap.size w w') : RdT w' A n ls :=
  ⟨h.1, fun i l hl => by
    obtain ⟨b, o, A', n', c', h1, h2, h3, h4, h5⟩ := h.2 i l hl
    exact ⟨b, o, A', n', c', h1, Below.cellOf hb (Nat.le_refl _) h2, h3.below hb, h4, h5⟩⟩
theorem Blk.two {w : World} {g : Nat} {t : TypeId} {a b : Value} (h : Blk w g t #[a, b]) :
    w.cell? ⟨g, 0, none⟩ = some a ∧ w.cell? ⟨g, 1, none⟩ = some b ∧ w.frozen? ⟨g, 0, none⟩ = false ∧ w.frozen? ⟨g, 1, none⟩ = false :=
  ⟨by rw [h.cell]; rfl, by rw [h.cell]; rfl, h.frozen 0, h.frozen 1⟩
theorem Blk.four {w : World} {g : Nat} {t : TypeId} {a b c d : Value} (h : Blk w g t #[a, b, c, d]) :
    w.cell? ⟨g, 0, none⟩ = some a ∧ w.cell? ⟨g, 1, none⟩ = some b ∧ w.cell? ⟨g, 2, none⟩ = some c ∧ w.cell? ⟨g, 3, none⟩ = some d :=
  ⟨by rw [h.cell]; rfl, by rw [h.cell]; rfl, by rw [h.cell]; rfl, by rw [h.cell]; rfl⟩
theorem Blk.grown {w w' : World} {g : Nat} {t : TypeId} {cs : Array Value} {r : Option Nat} (h : Blk w g t cs) (hg : w.grownBy w' r) (hne : r ≠ some g) : Blk w' g t cs :=
  (hg.block g h.lt (fun e => hne e.symm)).trans h
theorem Own.ne {w : World} {B s n c g : Nat} {e : TypeId} {A : Option Addr} {xs : List Value} (h : Own w B e s A n c xs) (hg : g < B) : blkOf A ≠ some g := fun e' => by
  have := (h.lt g e').1
  omega
theorem RdP.grown {w w' : World} {A : Option Addr} {n g : Nat} {l : List (Int × Int)} (h : RdP w A n l) (hg : w.grownBy w' (some g)) (hne : blkOf A ≠ some g) : RdP w' A n l :=
  ⟨h.1, fun i x hx => by
    obtain ⟨b, o, e, h1, h2⟩ := h.2 i x hx
    subst e
    have hbne : (some b : Option Nat) ≠ some g := hne
    have hb := lt_of_cell h1
    have hk := hg.block b hb (fun e => hbne e)
    refine ⟨b, o, rfl, ?_, ?_⟩
    all_goals
      unfold World.cell? at h1 h2 ⊢
      rw [hk]
      assumption⟩
theorem RdK.grown {k : IntKind} {w w' : World} {A : Option Addr} {n g : Nat} {l : List Int} (h : RdK k w A n l) (hg : w.grownBy w' (some g)) (hne : blkOf A ≠ some g) : RdK k w' A n l :=
  ⟨h.1, fun i x hx => by
    obtain ⟨b, o, e, hc⟩ := h.2 i x hx
    subst e
    refine ⟨b, o, rfl, ?_⟩
    have hb := lt_of_cell hc
    have hbne : (some b : Option Nat) ≠ some g := hne
    have := hg.block b hb (fun e => hbne e)
    unfold World.cell? at hc ⊢
    rw [this]
    exact hc⟩
theorem grownBy_set (W : World) (g i : Nat) (v : Value) : W.grownBy (W.setCell ⟨g, i, none⟩ v) (some g) where
  os := rfl
  tape := rfl
  output := rfl
  size := by simp [World.setCell]
  block := fun k hk hne => Below.heap_setCell W ⟨g, i, none⟩ v k (fun e => hne (by rw [e]))
theorem Own.capMax {w : World} {B s n c : Nat} {e : TypeId} {A : Option Addr} {xs : List Value} (h : Own w B e s A n c xs) : c ≤ 9223372036854775807 := by
  rcases h.2 with ⟨h', h0⟩ | ⟨g, cap, cur, h1, _, _, _, h4, _⟩
  · cases h'; omega
  · cases h1; unfold maxLen at h4; omega
/-- What an owned row is, at one element at least. -/
theorem Own.block {w : World} {B s n c : Nat} {e : TypeId} {A : Option Addr} {xs : List Value} (h : Own w B e s A n c xs) (hn : 0 < n) :
    ∃ g cur, A = some ⟨g, 0, none⟩ ∧ B ≤ g ∧ Blk w g e cur ∧ n ≤ c ∧ cur.size = c * s ∧ ∀ (j : Nat) (u : Value), xs[j]? = some u → cur[j]? = some u := by
  rcases h.2 with ⟨_, h0⟩ | ⟨g, cap, cur, h1, h2, h3, h4, _, h6, h7⟩
  · omega
  · cases h1
    refine ⟨g, cur, rfl, h2, h3, h4, h6, fun j u hu => ?_⟩
    rw [← h7, List.getElem?_take] at hu
    split at hu
    · simpa using hu
    · cases hu
theorem takeU_ {P : Program} {ops : Array Oper} {Q : Exit → Act → World → Prop} {md : Region.Mode} {S : World → Prop} {i : Nat} {oi : Oper} {d : Option Tmp} {fuel : Nat} {listed : Array Bool} {a : Act} {w : World} (hi : ops[i]? = some oi) (hd : oi.dst = d)
    (hs : Region.noSelect ops = true) (hf : Region.free md ops listed i = true) (hr : (Region.ready md ops listed).contains i = true)
    (hQ : ∀ c a w, Q (.panic c) (a.put oi.dst undef) w → Q (.panic c) a w) (hw : Region.wanted oi (yielded ops a.tmps) = false) (hS : S w)
    (h : wpAnyH P md ops Q S fuel (listed.setIfInBounds i true) (a.put d undef) w) : wpAnyH P md ops Q S (fuel + 1) listed a w := by
  subst hd
  exact wpAnyH_take hi hs hf hr hQ (Or.inr ⟨hw, rfl⟩) hS h
theorem step_app' {P : Program} {w : World} {ops : Array Oper} {o : Oper} {a : Act} {K : Act → World → Prop} {Q : Exit → Act → World → Prop} {E : Prop} (d : Option Tmp) (hd : o.dst = d) (hgd : o.guard = none) (s x : Operand) (t : TypeId)
    (ho : o.op = .call { callee := .builtin .append, args := #[s, x], argTypes := #[t, t] })
    (e : TypeId) (z : Value) (sz by_ : Nat) (hinfo : (P.info? e).map (fun i => (i.zero, i.size, i.bytes)) = some (some z, sz, by_)) (ht : P.underlying t = some (.slice e)) (hzs : z.cells.size = sz) (hs0 : 0 < sz)
    {B n c m c2 : Nat} {A X : Option Addr} {xs news : List Value} (hs : a.eval s = .slice A n c) (hx : a.eval x = .slice X m c2)
    (hown : Own w B e sz A n c xs) (hr : Rds w sz X m news) (h1 : ∀ u ∈ news, u.oneCell' = true) (hn : (n + m) * by_ ≤ 140737488355328) (hnm : n + m ≤ 9223372036854775807) (hB : B ≤ w.heap.size)
    (h : ∀ A' c' w', Own w' B e sz A' (n + m) c' (xs ++ news) → w.grownBy w' (blkOf A) → (blkOf A' = blkOf A ∨ blkOf A' = some w.heap.size) → K (a.put d (.slice A' (n + m) c')) w') :
    if Region.wanted o (yielded ops a.tmps) = true then Oper.wp P o a w K Q else E := by
  subst hd
  exact step_app hgd s x t ho e z sz by_ hinfo ht hzs hs0 hs hx hown hr h1 hn hnm hB h
/-- A row of the call's own, of rows that lie elsewhere. -/
def RwO (W : World) (B : Nat) (t : TypeId) (A : Option Addr) (n c : Nat) (xs : List Value) (ls : List (List Int)) : Prop :=
  Own W B t 1 A n c xs ∧ ls.length = n ∧ ∀ (j : Nat) (l : List Int), ls[j]? = some l → ∃ A' n' c', xs[j]? = some (.slice A' n' c') ∧ RdI W A' n' l ∧ (∀ g, blkOf A' = some g → g < W.heap.size ∧ blkOf A ≠ some g) ∧ n' ≤ c' ∧ c' ≤ 9223372036854775807
theorem RwO.nil (W : World) (B : Nat) (t : TypeId) : RwO W B t none 0 0 [] [] := ⟨Own.nil _ _ _ _, rfl, fun j l h => by simp at h⟩
theorem RwO.rdT {W : World} {B n c : Nat} {t : TypeId} {A : Option Addr} {xs : List Value} {ls : List (List Int)} (h : RwO W B t A n c xs ls) : RdT W A n ls :=
  ⟨h.2.1, fun i l hl => by
    obtain ⟨A', n', c', h1, h2, _, h4, h5⟩ := h.2.2 i l hl
    obtain ⟨b, o, e, hc⟩ := h.1.rds.2 i _ h1
    exact ⟨b, o, A', n', c', e, hc, h2, h4, h5⟩⟩
theorem RwO.below {W W' : World} {B n c : Nat} {t : TypeId} {A : Option Addr} {xs : List Value} {ls : List (List Int)} (h : RwO W B t A n c xs ls) (hb : Below W.heap.size W W') : RwO W' B t A n c xs ls :=
  ⟨h.1.below hb, h.2.1, fun i l hl => by
    obtain ⟨A', n', c', h1, h2, h3, h4, h5⟩ := h.2.2 i l hl
    exact ⟨A', n', c', h1, h2.below hb, fun g hg => ⟨Nat.lt_of_lt_of_le (h3 g hg).1 hb.size, (h3 g hg).2⟩, h4, h5⟩⟩
theorem RdK.grownN {k : IntKind} {w w' : World} {A : Option Addr} {n : Nat} {r : Option Nat} {l : List Int} (h : RdK k w A n l) (hg : w.grownBy w' r) (hne : ∀ g, blkOf A = some g → r ≠ some g) : RdK k w' A n l :=
  ⟨h.1, fun i x hx => by
    obtain ⟨b, o, e, hc⟩ := h.2 i x hx
    subst e
    refine ⟨b, o, rfl, ?_⟩
    have hb := lt_of_cell hc
    have := hg.block b hb (fun e => hne b rfl e.symm)
    unfold World.cell? at hc ⊢
    rw [this]
    exact hc⟩
/-- One row more. -/
theorem RwO.push {W w' : World} {B n c c' m d : Nat} {t : TypeId} {A A' R : Option Addr} {xs : List Value} {ls : List (List Int)} {l : List Int} (h : RwO W B t A n c xs ls)
    (hown : Own w' B t 1 A' (n + 1) c' (xs ++ [.slice R m d])) (hg : W.grownBy w' (blkOf A)) (hat : blkOf A' = blkOf A ∨ blkOf A' = some W.heap.size)
    (hr : RdI W R m l) (hne : ∀ g, blkOf R = some g → g < W.heap.size ∧ blkOf A ≠ some g) (h4 : m ≤ d) (h5 : d ≤ 9223372036854775807) : RwO w' B t A' (n + 1) c' (xs ++ [.slice R m d]) (ls ++ [l]) := by
  have hxl : xs.length = ls.length := by rw [h.1.1, h.2.1]; omega
  have new : ∀ Y : Option Addr, (∀ g, blkOf Y = some g → g < W.heap.size ∧ blkOf A ≠ some g) → ∀ g, blkOf Y = some g → g < w'.heap.size ∧ blkOf A' ≠ some g := fun Y hY g e => by
    obtain ⟨k1, k2⟩ := hY g e
    refine ⟨Nat.lt_of_lt_of_le k1 hg.size, fun e2 => ?_⟩
    rcases hat with hat | hat
    · exact k2 (by rw [← hat]; exact e2)
    · rw [hat] at e2
      injection e2 with e2
      omega
  refine ⟨hown, by simp [h.2.1], fun j l' hl => ?_⟩
  rcases Nat.lt_trichotomy j ls.length with hj | hj | hj
  · rw [List.getElem?_append_left hj] at hl
    obtain ⟨A2, n2, c2, k1, k2, k3, k4, k5⟩ := h.2.2 j l' hl
    exact ⟨A2, n2, c2, by rw [List.getElem?_append_left (by omega)]; exact k1, k2.grownN hg (fun g e => (k3 g e).2), new A2 k3, k4, k5⟩
  · subst hj
    rw [List.getElem?_append_right (Nat.le_refl _), Nat.sub_self] at hl
    cases hl
    exact ⟨R, m, d, by rw [← hxl, List.getElem?_append_right (Nat.le_refl _), Nat.sub_self]; rfl, hr.grownN hg (fun g e => (hne g e).2), new R hne, h4, h5⟩
  · rw [List.getElem?_eq_none (by simp; omega)] at hl
    cases hl
theorem slice_one (R : Option Addr) (m d : Nat) : ∀ u ∈ [Value.slice R m d], u.oneCell' = true := by
  intro u hu
  simp at hu
  rw [hu]
  rfl
end Go.Proofs.YtjphjbchhhembaaDoor
