/- Parts of the proof: QFl1, QFlD. -/
import Derived.Test.YtpffhoefmcpniaaGreatDoorW1
import Derived.Test.YtpffhoefmcpniaaGreatDoorW6
/- flow.links: of each vertex the edges at it. -/
namespace Go.Proofs.YtpffhoefmcpniaaGreatDoor
open Go.RowKit

attribute [local go_sem ↓] Go.wp_at_zero Go.wp_at_succ

theorem infoLink : (Tryz.prog.info? 230).map (fun i => (i.zero, i.size, i.bytes)) = some (some (.agg #[.int .i64 0, .int .i64 0, .int .i64 0, .int .i64 0]), 4, 32) := by kernel_rfl
theorem infoLinkR : (Tryz.prog.info? 228).map (fun i => (i.zero, i.size, i.bytes)) = some (some (.slice none 0 0), 1, 24) := by kernel_rfl

/-- Rows of links, each of the call's own, as the cells of one block. -/
def LkO (W : World) (B g n : Nat) (ls : List (List Lnk)) : Prop :=
  ls.length = n ∧ g < B ∧ ∃ cs, Blk W g 228 cs ∧ cs.size = n ∧ (∀ (v : Nat) (l : List Lnk), ls[v]? = some l → ∃ A c, cs[v]? = some (.slice A l.length c) ∧ Own W B 230 4 A l.length c (lcells l)) ∧
    ∀ (v v' : Nat) A m c A' m' c', v ≠ v' → cs[v]? = some (.slice A m c) → cs[v']? = some (.slice A' m' c') → Dj A A'
theorem LkO.start {W : World} {B g n : Nat} (hg : g < B) (h : Blk W g 228 (zeros (.slice none 0 0) n)) : LkO W B g n (List.replicate n []) := by
  refine ⟨by simp, hg, _, h, by simp [zeros], fun v l hl => ?_, fun v v' A m c A' m' c' _ h1 _ => ?_⟩
  · obtain ⟨hv, e⟩ := List.getElem?_eq_some_iff.1 hl
    simp at e
    subst e
    refine ⟨none, 0, ?_, Own.nil _ _ _ _⟩
    simp at hv
    simp [zeros, hv]
  · have hv := (Array.getElem?_eq_some_iff.1 h1).1
    have e := (Array.getElem?_eq_some_iff.1 h1).2
    simp [zeros] at e
    obtain ⟨rfl, _, _⟩ := e
    exact .inl rfl
theorem LkO.alloc {W : World} {B g n : Nat} {ls : List (List Lnk)} (h : LkO W B g n ls) (o : Obj) : LkO (W.alloc o) B g n ls := by
  obtain ⟨h1, h2, cs, h3, h4, h5, h6⟩ := h
  exact ⟨h1, h2, cs, h3.alloc o, h4, fun v l hl => by
    obtain ⟨A, c, k1, k2⟩ := h5 v l hl
    exact ⟨A, c, k1, k2.alloc o⟩, h6⟩
theorem LkO.row {W : World} {B g n u : Nat} {ls : List (List Lnk)} (h : LkO W B g n ls) (hu : u < n) : ∃ A c l, ls[u]? = some l ∧ W.cell? ⟨g, u, none⟩ = some (.slice A l.length c) ∧ W.frozen? ⟨g, u, none⟩ = false ∧ Own W B 230 4 A l.length c (lcells l) := by
  obtain ⟨h1, h2, cs, h3, h4, h5, h6⟩ := h
  have hl : ls[u]? = some ls[u] := List.getElem?_eq_getElem (by omega)
  obtain ⟨A, c, k1, k2⟩ := h5 u _ hl
  exact ⟨A, c, _, hl, by rw [h3.cell]; exact k1, h3.frozen u, k2⟩
theorem LkO.lt {W : World} {B g n : Nat} {ls : List (List Lnk)} (h : LkO W B g n ls) : g < W.heap.size := by
  obtain ⟨_, _, cs, h3, _⟩ := h
  exact h3.lt
/-- One link more. -/
theorem LkO.push {W w' : World} {B g n u c c' : Nat} {A A' : Option Addr} {ls : List (List Lnk)} {l : List Lnk} {k : Lnk} (h : LkO W B g n ls) (hl : ls[u]? = some l) (hc : W.cell? ⟨g, u, none⟩ = some (.slice A l.length c))
    (hown : Own w' B 230 4 A' (l.length + 1) c' (lcells l ++ lcells [k])) (hg : W.grownBy w' (blkOf A)) (hat : blkOf A' = blkOf A ∨ blkOf A' = some W.heap.size) :
    LkO (w'.setCell ⟨g, u, none⟩ (.slice A' (l.length + 1) c')) B g n (ls.set u (l ++ [k])) := by
  obtain ⟨h1, h2, cs, h3, h4, h5, h6⟩ := h
  have hu := (List.getElem?_eq_some_iff.1 hl).1
  have hcs : cs[u]? = some (.slice A l.length c) := by rw [← h3.cell]; exact hc
  obtain ⟨A0, c0, k1, hown0⟩ := h5 u l hl
  rw [hcs] at k1
  cases k1
  have hgA : blkOf A ≠ some g := hown0.ne h2
  have hgA' : blkOf A' ≠ some g := hown.ne h2
  refine ⟨by rw [List.length_set]; exact h1, h2, _, (h3.grown hg hgA).set_ u (.slice A' (l.length + 1) c'), by simpa using h4, fun v l' hl' => ?_, fun v v' X m d X' m' d' hne e1 e2 => ?_⟩
  · by_cases e : u = v
    · subst e
      rw [List.getElem?_set_self hu] at hl'
      cases hl'
      refine ⟨A', c', by rw [Array.getElem?_setIfInBounds_self_of_lt (by omega), List.length_append]; rfl, ?_⟩
      rw [List.length_append, lcells_app]
      exact hown.far (grownBy_set _ _ _ _) (.inr hgA')
    · rw [List.getElem?_set_ne e] at hl'
      obtain ⟨X, d, k1, k2⟩ := h5 v l' hl'
      refine ⟨X, d, by rw [Array.getElem?_setIfInBounds_ne e]; exact k1, (k2.far hg (h6 u v _ _ _ _ _ _ e hcs k1).far).far (grownBy_set _ _ _ _) (.inr (k2.ne h2))⟩
  · have old : ∀ v X m d, u ≠ v → cs[v]? = some (.slice X m d) → Dj A' X := fun v X m d hv e3 => by
      have hv2 := (Array.getElem?_eq_some_iff.1 e3).1
      obtain ⟨X0, d0, k1, k2⟩ := h5 v _ (List.getElem?_eq_getElem (show v < ls.length by omega))
      rw [e3] at k1
      cases k1
      exact (h6 u v _ _ _ _ _ _ hv hcs e3).next k2 hat
    by_cases a1 : u = v
    · subst a1
      rw [Array.getElem?_setIfInBounds_self_of_lt (by omega)] at e1
      cases e1
      rw [Array.getElem?_setIfInBounds_ne hne] at e2
      exact old v' X' m' d' hne e2
    · rw [Array.getElem?_setIfInBounds_ne a1] at e1
      by_cases a2 : u = v'
      · subst a2
        rw [Array.getElem?_setIfInBounds_self_of_lt (by omega)] at e2
        cases e2
        exact (old v X m d a1 e1).symm
      · rw [Array.getElem?_setIfInBounds_ne a2] at e2
        exact h6 v v' X m d X' m' d' hne e1 e2
theorem LkO.rdN {W : World} {B g n : Nat} {ls : List (List Lnk)} (h : LkO W B g n ls) : RdN W (some ⟨g, 0, none⟩) n ls := by
  obtain ⟨h1, h2, cs, h3, h4, h5, h6⟩ := h
  refine ⟨h1, fun i l hl => ?_⟩
  obtain ⟨A, c, k1, k2⟩ := h5 i l hl
  exact ⟨g, 0, A, c, rfl, by rw [Nat.zero_add, h3.cell]; exact k1, k2.rds.rdL, k2.cap, k2.capMax⟩

/-- A world without the blocks from lo up to hi. -/
def ghost (lo hi : Nat) (w : World) : World := { w with heap := w.heap.mapIdx (fun k o => if lo ≤ k ∧ k < hi then Obj.cells #[] 0 else o) }
theorem ghost_block {lo hi k : Nat} {w : World} (h : k < lo ∨ hi ≤ k) : (ghost lo hi w).heap[k]? = w.heap[k]? := by
  unfold ghost
  simp only [Array.getElem?_mapIdx]
  cases w.heap[k]? with
  | none => rfl
  | some o => rw [Option.map_some, if_neg (by omega)]
theorem ghost_cell {lo hi : Nat} {w : World} {p : Addr} {v : Value} (h : w.cell? p = some v) (hp : p.block < lo ∨ hi ≤ p.block) : (ghost lo hi w).cell? p = some v := by
  unfold World.cell? at h ⊢
  rw [ghost_block hp]
  exact h
theorem LkO.ghostN {W : World} {B g n lo : Nat} {ls : List (List Lnk)} (h : LkO W B g n ls) (hg : g + 1 = B) : RdN (ghost lo g W) (some ⟨g, 0, none⟩) n ls := by
  obtain ⟨h1, h2, cs, h3, h4, h5, h6⟩ := h
  refine ⟨h1, fun i l hl => ?_⟩
  obtain ⟨A, c, k1, k2⟩ := h5 i l hl
  refine ⟨g, 0, A, c, rfl, ghost_cell (by rw [Nat.zero_add, h3.cell]; exact k1) (.inr (Nat.le_refl _)), ?_, k2.cap, k2.capMax⟩
  have hr := k2.rds.rdL
  refine ⟨hr.1, fun j x hx => ?_⟩
  obtain ⟨b, o, e, c0, c1, c2, c3⟩ := hr.2 j x hx
  have hb : g ≤ b := by have := (k2.lt b (by rw [e]; rfl)).1; omega
  exact ⟨b, o, e, ghost_cell c0 (.inr hb), ghost_cell c1 (.inr hb), ghost_cell c2 (.inr hb), ghost_cell c3 (.inr hb)⟩

theorem LkO.drew {W : World} {B g n : Nat} {ls : List (List Lnk)} (h : LkO W B g n ls) : LkO W.drew B g n ls := by
  obtain ⟨h1, h2, cs, h3, h4, h5, h6⟩ := h
  exact ⟨h1, h2, cs, h3.drew, h4, fun v l hl => by
    obtain ⟨A, c, k1, k2⟩ := h5 v l hl
    exact ⟨A, c, k1, k2.drew⟩, h6⟩
theorem LkO.cellG {W w' : World} {B g n u : Nat} {r : Option Nat} {ls : List (List Lnk)} (h : LkO W B g n ls) (hu : u < n) (hg : W.grownBy w' r) (hr : r ≠ some g) : ∃ v, w'.cell? ⟨g, u, none⟩ = some v ∧ w'.frozen? ⟨g, u, none⟩ = false := by
  obtain ⟨h1, h2, cs, h3, h4, h5, h6⟩ := h
  have hb := h3.grown hg hr
  exact ⟨_, by rw [hb.cell]; exact Array.getElem?_eq_getElem (by omega), hb.frozen u⟩
theorem addLink_eq {ls : List (List Lnk)} {l : List Lnk} {i u v : Nat} {y : Int} (h : ls[u]? = some l) : addLink ls ⟨i, u, v, y⟩ = ls.set u (l ++ [⟨i, u, v, y⟩]) := by
  unfold addLink
  simp only
  rw [List.getD_eq_getElem?_getD, h]
  rfl
theorem run_makeLinks (n : Nat) (hn : n ≤ 1000000000) (W : World) : (Instr.makeSlice 216 (.int .i64 (n : Int)) (.int .i64 (n : Int))).run Tryz.prog W = .ok (.slice (some ⟨W.heap.size, 0, none⟩) n n) (W.alloc (.cells (zeros (.slice none 0 0) n) 228)) :=
  run_make1 (P := Tryz.prog) 216 228 (.slice none 0 0) 24 infoLinkR Tryz.underlying216 rfl n (by omega) (by omega) .i64 .i64 W

/-- All ends of edges are vertices. -/
def Ends (n : Nat) (E : List Edg) : Prop := ∀ e ∈ E, 0 ≤ e.1 ∧ e.1 < n ∧ 0 ≤ e.2 ∧ e.2 < n
/-- The links of the first edges. -/
def lksTo (n : Nat) (E : List Edg) : Nat → List (List Lnk)
  | 0 => List.replicate n []
  | i + 1 => addEdge (lksTo n E i) i (E.getD i (0, 0)).1.toNat (E.getD i (0, 0)).2.toNat
theorem lksTo_ok {n : Nat} {E : List Edg} (h : Ends n E) : ∀ i : Nat, i ≤ E.length → LkP n E i (lksTo n E i)
  | 0, _ => LkP.start n E
  | i + 1, hi => by
    have hE : E[i]? = some E[i] := List.getElem?_eq_getElem (by omega)
    have he := h _ (List.getElem_mem (show i < E.length by omega))
    have hd : E.getD i (0, 0) = E[i] := by rw [List.getD_eq_getElem?_getD, hE]; rfl
    unfold lksTo
    rw [hd]
    refine (lksTo_ok h i (by omega)).next ?_ (by omega) (by omega)
    rw [hE, Int.toNat_of_nonneg he.1, Int.toNat_of_nonneg he.2.2.1]

theorem four_one (a b c d : Int) : ∀ u ∈ [Value.int .i64 a, .int .i64 b, .int .i64 c, .int .i64 d], u.oneCell' = true := by
  intro u hu
  simp only [List.mem_cons, List.not_mem_nil, or_false] at hu
  rcases hu with rfl | rfl | rfl | rfl <;> rfl
theorem addLink_bd {ls : List (List Lnk)} {k : Lnk} {m : Nat} (h : ∀ (a : Nat) (l : List Lnk), ls[a]? = some l → l.length ≤ m) : ∀ (a : Nat) (l : List Lnk), (addLink ls k)[a]? = some l → l.length ≤ m + 1 := fun a l hl => by
  unfold addLink at hl
  have hlen := (List.getElem?_eq_some_iff.1 hl).1
  rw [List.length_set] at hlen
  by_cases e : k.u = a
  · subst e
    rw [List.getElem?_set_self hlen, List.getD_eq_getElem?_getD, List.getElem?_eq_getElem hlen] at hl
    cases hl
    have := h _ _ (List.getElem?_eq_getElem hlen)
    simp
    omega
  · rw [List.getElem?_set_ne e] at hl
    have := h a l hl
    omega
theorem lksTo_bd (n : Nat) (E : List Edg) : ∀ (k a : Nat) (l : List Lnk), (lksTo n E k)[a]? = some l → l.length ≤ 2 * k
  | 0, a, l, hl => by
    have := (List.mem_replicate.1 (List.mem_of_getElem? hl)).2
    subst this
    simp
  | k + 1, a, l, hl => by
    unfold lksTo addEdge at hl
    split at hl
    · have := lksTo_bd n E k a l hl; omega
    · have := addLink_bd (addLink_bd (lksTo_bd n E k)) a l hl
      omega

set_option maxHeartbeats 4000000 in
theorem links_any (A : Option Addr) (n m c : Nat) (E : List Edg) (w : World) (h : RdP w A m E) (hE : Ends n E) (hn : n ≤ 1000000) (hm : m ≤ 1000000) :
    Calls Tryz.prog 122 #[.int .i64 n, .slice A m c] w fun e w' => e = .returned (.slice (some ⟨w.heap.size, 0, none⟩) n n) ∧ RdN w' (some ⟨w.heap.size, 0, none⟩) n (lksTo n E m) ∧ Below w.heap.size w w' ∧ ∀ lo, RdN (ghost lo w.heap.size w') (some ⟨w.heap.size, 0, none⟩) n (lksTo n E m) := by
  have hmk := run_makeLinks n (by omega)
  have HE := Lib.hid hE
  have HM := Lib.hid h.1
  clear hE
  go_enter Tryz.func122, Tryz.ntmps122
  go_wp2_with fail
  (refine wp_named ?_; intro w1 hw1)
  have hb1 : Below w.heap.size w w1 := by rw [hw1]; exact bELt
  have hl1 : LkO w1 (w.heap.size + 1) w.heap.size n (lksTo n E 0) := by rw [hw1]; exact LkO.start (by omega) (Blk.new _ _ _)
  have hz1 : w.heap.size + 1 ≤ w1.heap.size := by rw [hw1]; simp
  clear hw1 hmk
  go_loopw [14] (fun i W => Below w.heap.size w W ∧ w.heap.size + 1 ≤ W.heap.size ∧ ∃ k : Nat, k ≤ m ∧ i = .int .i64 k ∧ LkO W (w.heap.size + 1) w.heap.size n (lksTo n E k)) (fun i _ => m - (intOf i).toNat)
  case atStart => exact ⟨hb1, hz1, 0, Nat.zero_le _, rfl, hl1⟩
  case round =>
    clear hb1 hz1 hl1
    obtain ⟨hbl, hz, k, hk, rfl, hlk⟩ := hrel
    by_cases hlt : k < m
    · obtain ⟨b, o, x, y, rfl, hx, cx, cy⟩ := h.at_ hlt
      have he := HE.out _ (List.mem_of_getElem? hx)
      obtain ⟨p, rfl⟩ : ∃ p : Nat, x = p := ⟨x.toNat, by simp only at he; omega⟩
      obtain ⟨q, rfl⟩ : ∃ q : Nat, y = q := ⟨y.toNat, by simp only at he; omega⟩
      have hp : p < n := by simp only at he; omega
      have hq : q < n := by simp only at he; omega
      have HN := Lib.hid (show lksTo n E (k + 1) = addEdge (lksTo n E k) k p q by
        show addEdge (lksTo n E k) k (E.getD k (0, 0)).1.toNat (E.getD k (0, 0)).2.toNat = _
        rw [List.getD_eq_getElem?_getD, hx]
        simp)
      have j1 := Below.cellOf hbl (Nat.le_refl _) cx
      have j2 := Below.cellOf hbl (Nat.le_refl _) cy
      have i1 : (0 : Int) ≤ (k : Int) := by omega
      have i2 : (k : Int) < (m : Int) := by omega
      clear hx he cx cy
      have HLN := Lib.hid (show ∀ l, (lksTo n E k)[p]? = some l → l.length ≤ 3000000 from fun l hl => by have := lksTo_bd n E k p l hl; omega)
      have HLM := Lib.hid (show ∀ l, (addLink (lksTo n E k) ⟨k, p, q, 1⟩)[q]? = some l → l.length ≤ 3000000 from fun l hl => by have := addLink_bd (lksTo_bd n E k) q l hl; omega)
      generalize lksTo n E k = ls at *
      obtain ⟨W2, hW2⟩ : ∃ W2, W2 = wr.alloc (.cells #[.int .i64 p, .int .i64 q] 127) := ⟨_, rfl⟩
      have hbox : Blk W2 wr.heap.size 127 #[.int .i64 p, .int .i64 q] := by rw [hW2]; exact Blk.new _ _ _
      have hlk2 : LkO W2 (w.heap.size + 1) w.heap.size n ls := by rw [hW2]; exact hlk.alloc _
      have hbl2 : Below w.heap.size w W2 := by rw [hW2]; exact bELt
      have hz2 : w.heap.size + 1 ≤ W2.heap.size := by rw [hW2]; simp; omega
      have HSX := Lib.hid (show ∀ V, Below W2.heap.size W2 V → V.cell? ⟨wr.heap.size, 0, none⟩ = some (.int .i64 p) ∧ V.cell? ⟨wr.heap.size, 1, none⟩ = some (.int .i64 q) from
        fun V hb => ⟨(hbox.below hb hbox.lt).two.1, (hbox.below hb hbox.lt).two.2.1⟩)
      go_wp2_with fail
      rw [← hW2]
      refine wp_region_held_drew (S := fun V => Below W2.heap.size W2 V) (by kernel_rfl) (Below.refl _ _).drew (fun _ => ?_)
      refine tk 0 19 (h := ⟨_, tv, ?_⟩)
      simp only [pE, List.set]
      refine tk 1 20 (h := ⟨_, tv, ?_⟩)
      simp only [pE, List.set]
      refine tk 2 21 (h := ⟨_, tv, ?_⟩)
      simp only [pE, List.set]
      refine tk 3 22 (h := ⟨_, tv, ?_⟩)
      simp only [pE, List.set]
      refine tk 4 8 (h := ⟨_, tv, ?_⟩)
      simp only [pE, List.set]
      refine tk 5 9 (h := ⟨_, tv, ?_⟩)
      simp only [pE, List.set]
      refine wpAnyH_done (by kernel_rfl) ?_ _
      clear HSX hbox
      obtain ⟨W3, hW3⟩ : ∃ W3, W3 = W2.drew := ⟨_, rfl⟩
      rw [← hW3]
      have hlkW3 : LkO W3 (w.heap.size + 1) w.heap.size n ls := by rw [hW3]; exact hlk2.drew
      have hblW3 : Below w.heap.size w W3 := by rw [hW3]; exact hbl2.drew
      have hzW3 : w.heap.size + 1 ≤ W3.heap.size := by rw [hW3]; exact hz2
      clear hW3 hlk2 hbl2 hz2 hW2 hlk hbl hz j1 j2
      by_cases hpq : p = q
      · have e1 : ((p : Int) == (q : Int)) = true := by rw [hpq]; simp
        have HQ := Lib.hid hpq
        clear hpq
        go_wp2_with fail
        go_roundw
        case rel => exact ⟨hblW3, hzW3, k + 1, by omega, by go_num, by rw [HN.out]; unfold addEdge; rw [if_pos HQ.out]; exact hlkW3⟩
        case measure => simp [intOf]; omega
      · have e1 : ((p : Int) == (q : Int)) = false := by simp only [beq_eq_false_iff_ne]; omega
        have HQ := Lib.hid hpq
        have i5 : (0 : Int) ≤ (p : Int) := by omega
        have i6 : (p : Int) < (n : Int) := by omega
        have i7 : (0 : Int) ≤ (q : Int) := by omega
        have i8 : (q : Int) < (n : Int) := by omega
        clear hpq
        obtain ⟨A5, c5, l5, hl5, hc5, _, hown5⟩ := hlkW3.row hp
        have hg5 : blkOf A5 ≠ some w.heap.size := hown5.ne (by omega)
        have hb5 : Blk (W3.alloc (.cells #[.int .i64 k, .int .i64 p, .int .i64 q, .int .i64 1] 230)) W3.heap.size 230 #[.int .i64 k, .int .i64 p, .int .i64 q, .int .i64 1] := Blk.new _ _ _
        have hrd5 := hb5.rds (s := 4) (m := 1) rfl
        have hla5 := hlkW3.alloc (.cells #[.int .i64 k, .int .i64 p, .int .i64 q, .int .i64 1] 230)
        have hoa5 := hown5.alloc (.cells #[.int .i64 k, .int .i64 p, .int .i64 q, .int .i64 1] 230)
        have hca5 : (W3.alloc (.cells #[.int .i64 k, .int .i64 p, .int .i64 q, .int .i64 1] 230)).cell? ⟨w.heap.size, p, none⟩ = some (.slice A5 l5.length c5) := Below.cellOf ((Below.refl _ _).alloc (Nat.le_refl _) _) (Nat.le_refl _) hc5
        have hln5 := HLN.out _ hl5
        clear hb5 hown5 hlkW3
        go_wp2_with (at_builtin; with_reducible refine wpList_app rfl (.tmp 31) (.tmp 36) 228 rfl 230 _ 4 32 infoLink Tryz.underlying228 rfl (by omega) rfl rfl hoa5 hrd5 (four_one _ _ _ _) (by omega) (by omega) (by simp; omega) ?_)
        intro B5 d5 w5 ho5 hgr5 hat5
        have hbw5 : Below w.heap.size w w5 := Bel.grownOwn (hblW3.alloc (by omega) _) hgr5 (hoa5.mono (by omega)) (by simp; omega)
        obtain ⟨_, hcv5, hcf5⟩ := hla5.cellG hp hgr5 hg5
        have hlk5 := hla5.push (k := ⟨k, p, q, 1⟩) hl5 hca5 ho5 hgr5 (by simpa using hat5)
        rw [← addLink_eq (i := k) (v := q) (y := 1) hl5] at hlk5
        have hzw5 : w.heap.size + 1 ≤ w5.heap.size := Nat.le_trans (by simp; omega) hgr5.size
        clear hla5 hoa5 hca5 hrd5 ho5 hgr5 hat5 hc5
        have hbl5 : Below w.heap.size w (w5.setCell ⟨w.heap.size, p, none⟩ (.slice B5 (l5.length + 1) d5)) := hbw5.setCell (Nat.le_refl _) _
        clear HLN
        have HLN := HLM
        obtain ⟨A6, c6, l6, hl6, hc6, _, hown6⟩ := hlk5.row hq
        have hg6 : blkOf A6 ≠ some w.heap.size := hown6.ne (by omega)
        have hb6 : Blk ((w5.setCell ⟨w.heap.size, p, none⟩ (.slice B5 (l5.length + 1) d5)).alloc (.cells #[.int .i64 k, .int .i64 q, .int .i64 p, .int .i64 (-1)] 230)) (w5.setCell ⟨w.heap.size, p, none⟩ (.slice B5 (l5.length + 1) d5)).heap.size 230 #[.int .i64 k, .int .i64 q, .int .i64 p, .int .i64 (-1)] := Blk.new _ _ _
        have hrd6 := hb6.rds (s := 4) (m := 1) rfl
        rw [show (w5.setCell ⟨w.heap.size, p, none⟩ (.slice B5 (l5.length + 1) d5)).heap.size = w5.heap.size by simp [World.setCell]] at hrd6
        have hla6 := hlk5.alloc (.cells #[.int .i64 k, .int .i64 q, .int .i64 p, .int .i64 (-1)] 230)
        have hoa6 := hown6.alloc (.cells #[.int .i64 k, .int .i64 q, .int .i64 p, .int .i64 (-1)] 230)
        have hca6 : ((w5.setCell ⟨w.heap.size, p, none⟩ (.slice B5 (l5.length + 1) d5)).alloc (.cells #[.int .i64 k, .int .i64 q, .int .i64 p, .int .i64 (-1)] 230)).cell? ⟨w.heap.size, q, none⟩ = some (.slice A6 l6.length c6) := Below.cellOf ((Below.refl _ _).alloc (Nat.le_refl _) _) (Nat.le_refl _) hc6
        have hln6 := HLN.out _ hl6
        clear hb6 hown6
        go_wp2_with (at_builtin; with_reducible refine wpList_app rfl (.tmp 44) (.tmp 49) 228 rfl 230 _ 4 32 infoLink Tryz.underlying228 rfl (by omega) rfl rfl hoa6 hrd6 (four_one _ _ _ _) (by omega) (by omega) (by simp [World.setCell]; omega) ?_)
        intro B6 d6 w6 ho6 hgr6 hat6
        have hbw6 : Below w.heap.size w w6 := Bel.grownOwn (hbl5.alloc (by simp [World.setCell]; omega) _) hgr6 (hoa6.mono (by omega)) (by simp [World.setCell]; omega)
        obtain ⟨_, hcv6, hcf6⟩ := hla6.cellG hq hgr6 hg6
        have hlk6 := hla6.push (k := ⟨k, q, p, (-1)⟩) hl6 hca6 ho6 hgr6 (by simpa [World.setCell] using hat6)
        rw [← addLink_eq (i := k) (v := p) (y := (-1)) hl6] at hlk6
        have hzw6 : w.heap.size + 1 ≤ w6.heap.size := Nat.le_trans (by simp [World.setCell]; omega) hgr6.size
        clear hla6 hoa6 hca6 hrd6 ho6 hgr6 hat6 hc6
        have HL6 := Lib.hid hlk6
        have hbn : Below w.heap.size w (w6.setCell ⟨w.heap.size, q, none⟩ (.slice B6 (l6.length + 1) d6)) := hbw6.setCell (Nat.le_refl _) _
        have hzn : w.heap.size + 1 ≤ (w6.setCell ⟨w.heap.size, q, none⟩ (.slice B6 (l6.length + 1) d6)).heap.size := Nat.le_trans hzw6 (grownBy_set _ _ _ _).size
        clear hlk6 hlk5
        go_wp2_with fail
        go_roundw
        case rel => exact ⟨hbn, hzn, k + 1, by omega, by go_num, by rw [HN.out]; unfold addEdge; rw [if_neg HQ.out]; exact HL6.out⟩
        case measure => simp [intOf]; omega
    · obtain rfl : k = m := by omega
      have HR := Lib.hid hlk.rdN
      have HG := Lib.hid (fun lo => hlk.ghostN (lo := lo) rfl)
      clear hlk
      go_wp2_with fail
      go_ret
      exact ⟨rfl, HR.out, hbl, HG.out⟩
end Go.Proofs.YtpffhoefmcpniaaGreatDoor

/- How many edges with room lead to each vertex: plain. -/
namespace Go.Proofs.YtpffhoefmcpniaaGreatDoor
open Go.RowKit

/-- There is room along a link, this way round (y = 1) or the other one (y = -1). -/
def rm (f : List Int) (y : Int) (k : Lnk) : Prop := f.getD k.e 0 ≠ y * k.y
def Go1 (ls : List (List Lnk)) (f : List Int) (y : Int) (u v : Nat) : Prop := ∃ k ∈ ls.getD u [], k.v = v ∧ rm f y k
def dAt (d : List Int) (v : Nat) : Int := d.getD v (-1)
structure Dep (n : Nat) (ls : List (List Lnk)) (f : List Int) (y : Int) (s : List Nat) (d : List Int) : Prop where
  len : d.length = n
  lo : ∀ v, -1 ≤ dAt d v
  hi : ∀ v, dAt d v < n
  zero : ∀ v, dAt d v = 0 → v ∈ s
  pre : ∀ v, 0 < dAt d v → ∃ u, dAt d u + 1 = dAt d v ∧ Go1 ls f y u v
  src : ∀ v ∈ s, 0 ≤ dAt d v
  closed : ∀ u v, 0 ≤ dAt d u → Go1 ls f y u v → 0 ≤ dAt d v
/-- What is known while the row grows. -/
structure Inv1 (n : Nat) (ls : List (List Lnk)) (f : List Int) (y : Int) (s : List Nat) (d : List Int) (q : List Nat) : Prop where
  len : d.length = n
  nodup : q.Nodup
  lt : ∀ v ∈ q, v < n
  lo : ∀ v, -1 ≤ dAt d v
  mem : ∀ v, v ∈ q ↔ 0 ≤ dAt d v
  hi : ∀ (p v : Nat), q[p]? = some v → dAt d v ≤ p
  pre : ∀ v ∈ q, (dAt d v = 0 ∧ v ∈ s) ∨ ∃ u, dAt d u + 1 = dAt d v ∧ 0 ≤ dAt d u ∧ Go1 ls f y u v
theorem dAt_rep (n v : Nat) : dAt (List.replicate n (-1)) v = -1 := by
  unfold dAt
  rw [List.getD_eq_getElem?_getD, List.getElem?_replicate]
  split <;> rfl
theorem dAt_set {d : List Int} {a : Nat} {x : Int} (ha : a < d.length) (v : Nat) : dAt (d.set a x) v = if v = a then x else dAt d v := by
  unfold dAt
  rw [List.getD_eq_getElem?_getD, List.getElem?_set]
  by_cases e : a = v
  · subst e
    rw [if_pos rfl, if_pos ha, if_pos rfl]
    rfl
  · rw [if_neg e, if_neg (Ne.symm e), ← List.getD_eq_getElem?_getD]
theorem Inv1.start (n : Nat) (ls : List (List Lnk)) (f : List Int) (y : Int) (s : List Nat) : Inv1 n ls f y s (List.replicate n (-1)) [] :=
  ⟨by simp, List.nodup_nil, (fun v h => by cases h), (fun v => by rw [dAt_rep]; omega), (fun v => by rw [dAt_rep]; simp), (fun p v h => by simp at h), (fun v h => by cases h)⟩
theorem Inv1.size {n : Nat} {ls : List (List Lnk)} {f : List Int} {y : Int} {s : List Nat} {d : List Int} {q : List Nat} (h : Inv1 n ls f y s d q) : q.length ≤ n := by
  have h1 : q.length ≤ (List.range n).length := h.nodup.length_le_of_subset (fun v hv => List.mem_range.2 (h.lt v hv))
  simpa using h1
theorem Inv1.add {n : Nat} {ls : List (List Lnk)} {f : List Int} {y : Int} {s : List Nat} {d : List Int} {q : List Nat} {a : Nat} {x : Int} (h : Inv1 n ls f y s d q) (ha : a < n) (hd : dAt d a < 0) (hx0 : 0 ≤ x) (hx : x ≤ q.length)
    (hp : (x = 0 ∧ a ∈ s) ∨ ∃ u, dAt d u + 1 = x ∧ 0 ≤ dAt d u ∧ Go1 ls f y u a) : Inv1 n ls f y s (d.set a x) (q ++ [a]) := by
  have hal : a < d.length := by rw [h.len]; exact ha
  have hna : a ∉ q := fun e => by have := (h.mem a).1 e; omega
  have old : ∀ v, v ∈ q → dAt (d.set a x) v = dAt d v := fun v hv => by
    rw [dAt_set hal, if_neg (fun e => hna (by rw [← e]; exact hv))]
  refine ⟨by rw [List.length_set]; exact h.len, ?_, fun v hv => ?_, fun v => ?_, fun v => ?_, fun p v hv => ?_, fun v hv => ?_⟩
  · rw [List.nodup_append]
    exact ⟨h.nodup, by simp, fun b hb c hc e => hna (by rw [List.mem_singleton.1 hc] at e; rw [← e]; exact hb)⟩
  · rcases List.mem_append.1 hv with h1 | h1
    · exact h.lt v h1
    · rw [List.mem_singleton.1 h1]; exact ha
  · rw [dAt_set hal]
    split
    · omega
    · exact h.lo v
  · rw [dAt_set hal, List.mem_append, List.mem_singleton]
    by_cases e : v = a
    · rw [if_pos e]; simp [e, hx0]
    · rw [if_neg e, ← h.mem v]; simp [e]
  · rcases Nat.lt_trichotomy p q.length with h1 | h1 | h1
    · rw [List.getElem?_append_left h1] at hv
      rw [old v (List.mem_of_getElem? hv)]
      exact h.hi p v hv
    · subst h1
      rw [List.getElem?_append_right (Nat.le_refl _), Nat.sub_self] at hv
      cases hv
      rw [dAt_set hal, if_pos rfl]
      exact hx
    · rw [List.getElem?_eq_none (by simp; omega)] at hv
      cases hv
  · rcases List.mem_append.1 hv with h1 | h1
    · rw [old v h1]
      rcases h.pre v h1 with h2 | ⟨u, k1, k2, k3⟩
      · exact .inl h2
      · exact .inr ⟨u, by rw [old u ((h.mem u).2 k2)]; exact k1, by rw [old u ((h.mem u).2 k2)]; exact k2, k3⟩
    · rw [List.mem_singleton.1 h1, dAt_set hal, if_pos rfl]
      rcases hp with hp | ⟨u, k1, k2, k3⟩
      · exact .inl hp
      · exact .inr ⟨u, by rw [old u ((h.mem u).2 k2)]; exact k1, by rw [old u ((h.mem u).2 k2)]; exact k2, k3⟩
/-- The first i of the row have been gone from; of the next one the first j links. -/
def Gone (ls : List (List Lnk)) (f : List Int) (y : Int) (q : List Nat) (i j : Nat) : Prop :=
  (∀ (p v : Nat) (k : Lnk), p < i → q[p]? = some v → k ∈ ls.getD v [] → rm f y k → k.v ∈ q) ∧ ∀ (v : Nat) (k : Lnk), q[i]? = some v → k ∈ (ls.getD v []).take j → rm f y k → k.v ∈ q
theorem Gone.start (ls : List (List Lnk)) (f : List Int) (y : Int) (q : List Nat) : Gone ls f y q 0 0 := ⟨fun _ _ _ h => absurd h (by omega), fun _ _ _ h => by simp at h⟩
theorem Gone.more {ls : List (List Lnk)} {f : List Int} {y : Int} {q q' : List Nat} {i j : Nat} (h : Gone ls f y q i j) (hi : i < q.length) (t : List Nat) (hq : q' = q ++ t) : Gone ls f y q' i j := by
  subst hq
  refine ⟨fun p v k hp hv hk hr => List.mem_append_left _ (h.1 p v k hp ?_ hk hr), fun v k hv hk hr => List.mem_append_left _ (h.2 v k ?_ hk hr)⟩
  · rwa [List.getElem?_append_left (by omega)] at hv
  · rwa [List.getElem?_append_left hi] at hv
theorem Gone.link {ls : List (List Lnk)} {f : List Int} {y : Int} {q : List Nat} {i j v : Nat} {k : Lnk} (h : Gone ls f y q i j) (hv : q[i]? = some v) (hk : (ls.getD v [])[j]? = some k) (hr : rm f y k → k.v ∈ q) : Gone ls f y q i (j + 1) := by
  refine ⟨h.1, fun v' k' hv' hk' hr' => ?_⟩
  rw [hv] at hv'
  cases hv'
  have hlt := (List.getElem?_eq_some_iff.1 hk).1
  rw [List.take_succ_eq_append_getElem hlt, List.mem_append, List.mem_singleton] at hk'
  rcases hk' with hk' | hk'
  · exact h.2 v k' hv hk' hr'
  · rw [(List.getElem?_eq_some_iff.1 hk).2] at hk'
    subst hk'
    exact hr hr'
theorem Gone.next {ls : List (List Lnk)} {f : List Int} {y : Int} {q : List Nat} {i v : Nat} (hv : q[i]? = some v) (h : Gone ls f y q i (ls.getD v []).length) : Gone ls f y q (i + 1) 0 := by
  refine ⟨fun p v' k hp hv' hk hr => ?_, fun _ _ _ h => by simp at h⟩
  rcases Nat.lt_or_ge p i with h1 | h1
  · exact h.1 p v' k h1 hv' hk hr
  · obtain rfl : p = i := by omega
    rw [hv] at hv'
    cases hv'
    exact h.2 v k hv (by rw [List.take_length]; exact hk) hr
theorem dep_of {n : Nat} {ls : List (List Lnk)} {f : List Int} {y : Int} {s : List Nat} {d : List Int} {q : List Nat} (h : Inv1 n ls f y s d q) (hs : ∀ v ∈ s, v ∈ q) (hg : Gone ls f y q q.length 0) : Dep n ls f y s d :=
  ⟨h.len, h.lo, (fun v => by
    by_cases h1 : dAt d v < 0
    · omega
    · have h1 : 0 ≤ dAt d v := by omega
      have hv := (h.mem v).2 h1
      obtain ⟨p, hp, e⟩ := List.getElem_of_mem hv
      have := h.hi p v (by rw [List.getElem?_eq_getElem hp, e])
      have := h.size
      omega), (fun v hv => by
    rcases h.pre v ((h.mem v).2 (by omega)) with h1 | ⟨u, k1, k2, _⟩
    · exact h1.2
    · omega), (fun v hv => by
    rcases h.pre v ((h.mem v).2 (by omega)) with h1 | ⟨u, k1, k2, k3⟩
    · omega
    · exact ⟨u, k1, k3⟩), (fun v hv => (h.mem v).1 (hs v hv)), fun u v hu ⟨k, hk, hkv, hr⟩ => by
    obtain ⟨p, hp, e⟩ := List.getElem_of_mem ((h.mem u).2 hu)
    have := hg.1 p u k hp (by rw [List.getElem?_eq_getElem hp, e]) hk hr
    rw [hkv] at this
    exact (h.mem v).1 this⟩
end Go.Proofs.YtpffhoefmcpniaaGreatDoor
