/- Parts of the proof: Bas, Nv. -/
import Derived.Test.YtpffhoefmcpniaaGreatDoorB1
import Derived.Laws.CopyOwn
import Derived.Deep.QuietTactic
import Derived.BigQuiet
import Derived.Deep.RegionHeld3
import Derived.Deep.DrawnRows
namespace Go.Proofs.YtpffhoefmcpniaaGreatDoor
open Go.RowKit

theorem ret_int {k : IntKind} {a b : Int} (h : a = b) : Ending.returned (.int k a) = .returned (.int k b) := by rw [h]
theorem ret_bool {a b : Bool} (h : a = b) : Ending.returned (.bool a) = .returned (.bool b) := by rw [h]
theorem Below.frozenOf {B : Nat} {w w' : World} (h : Below B w w') {a : Addr} (hB : a.block < B) : w'.frozen? a = w.frozen? a := by
 unfold World.frozen?
 rw [h.block _ hB]
theorem calls_named {P : Program} {f : Nat} {args : Array Value} {w : World} {Q : Ending → World → Prop} (h : ∀ W, W = w → Calls P f args W Q) : Calls P f args w Q := h w rfl
theorem wpAnyH_mono {P : Program} {ops : Array Oper} {Q : Exit → Act → World → Prop} {md : Region.Mode} {S S' : World → Prop} (h : ∀ w, S' w → S w) :
 ∀ (fuel : Nat) (listed : Array Bool) (a : Act) (w : World), wpAnyH P md ops Q S' fuel listed a w → wpAnyH P md ops Q S fuel listed a w
 | 0, _, _, _, g => g
 | fuel + 1, _, _, _, g => ⟨g.1, fun i hi => wpOp_mono (fun a' w' h' => ⟨h _ h'.1, wpAnyH_mono h fuel _ a' w' h'.2⟩) (g.2 i hi)⟩
theorem take_ {P : Program} {ops : Array Oper} {Q : Exit → Act → World → Prop} {md : Region.Mode} {S : World → Prop} {i : Nat} {oi : Oper} {d : Option Tmp} {v : Value} {fuel : Nat} {listed : Array Bool} {a : Act} {w : World} (hi : ops[i]? = some oi) (hd : oi.dst = d)
 (hs : Region.noSelect ops = true) (hf : Region.free md ops listed i = true) (hr : (Region.ready md ops listed).contains i = true)
 (hQ : ∀ c a w, Q (.panic c) (a.put oi.dst v) w → Q (.panic c) a w) (hw : Region.wanted oi (yielded ops a.tmps) = true) (hy : ∀ w, S w → (execOp a.eval oi).run P w = .ok (.value v) w) (hS : S w)
 (h : wpAnyH P md ops Q S fuel (listed.setIfInBounds i true) (a.put d v) w) : wpAnyH P md ops Q S (fuel + 1) listed a w := by
 subst hd
 exact wpAnyH_take hi hs hf hr hQ (Or.inl ⟨hw, hy⟩) hS h
theorem takeU_ {P : Program} {ops : Array Oper} {Q : Exit → Act → World → Prop} {md : Region.Mode} {S : World → Prop} {i : Nat} {oi : Oper} {d : Option Tmp} {fuel : Nat} {listed : Array Bool} {a : Act} {w : World} (hi : ops[i]? = some oi) (hd : oi.dst = d)
 (hs : Region.noSelect ops = true) (hf : Region.free md ops listed i = true) (hr : (Region.ready md ops listed).contains i = true)
 (hQ : ∀ c a w, Q (.panic c) (a.put oi.dst undef) w → Q (.panic c) a w) (hw : Region.wanted oi (yielded ops a.tmps) = false) (hS : S w)
 (h : wpAnyH P md ops Q S fuel (listed.setIfInBounds i true) (a.put d undef) w) : wpAnyH P md ops Q S (fuel + 1) listed a w := by
 subst hd
 exact wpAnyH_take hi hs hf hr hQ (Or.inr ⟨hw, rfl⟩) hS h
theorem step_app' {P : Program} {w : World} {ops : Array Oper} {o : Oper} {a : Act} {K : Act → World → Prop} {Q : Exit → Act → World → Prop} {E : Prop} (d : Option Tmp) (hd : o.dst = d) (hgd : o.guard = none) (s x : Operand) (t : TypeId)
 (ho : o.op = .call { callee := .builtin .append, args := #[s, x], argTypes := #[t, t] })
 (e : TypeId) (z : Value) (sz by_ : Nat) (hinfo : (P.info? e).map (fun i => (i.zero, i.size, i.bytes)) = some (some z, sz, by_)) (ht : P.underlying t = some (.slice e)) (hzs : z.cells.size = sz) (hs0 : 0 < sz)
 {B n c m c2 : Nat} {A X : Option Addr} {xs news : List Value} (hs : a.eval s = .slice A n c) (hx : a.eval x = .slice X m c2)
 (hown : Own w B e sz A n c xs) (hr : Rds w sz X m news) (h1 : ∀ u ∈ news, u.oneCell' = true) (hn : (n + m) * by_ ≤ 140737488355328) (hnm : n + m ≤ 9223372036854775807) (hB : B ≤ w.heap.size)
 (h : ∀ A' c' w', Own w' B e sz A' (n + m) c' (xs ++ news) → w.grownBy w' (blkOf A) → (blkOf A' = blkOf A ∨ blkOf A' = some w.heap.size) → K (a.put d (.slice A' (n + m) c')) w') :
 if Region.wanted o (yielded ops a.tmps) = true then Oper.wp P o a w K Q else E := by
 subst hd
 exact step_app hgd s x t ho e z sz by_ hinfo ht hzs hs0 hs hx hown hr h1 hn hnm hB h
theorem quiet_left {P : Program} {f : FuncId} {args : Array Value} {w : World} {n : Nat} {v : Value}
 (h : Calls P f args (w.drewN n) fun e w' => e = .returned v ∧ w.drewN n = w') : Calls P f args (w.drewN n) fun e w' => e = .returned v ∧ ∃ m, w' = w.drewN m :=
 h.mono fun _ _ ⟨he, hm⟩ => ⟨he, n, hm.symm⟩
theorem quiet_draws {P : Program} {f : FuncId} {args : Array Value} {w : World} {n : Nat} {v : Value}
 (h : Calls P f args (w.drewN n) fun e w' => e = .returned v ∧ ∃ q, w' = (w.drewN n).drewN q) : Calls P f args (w.drewN n) fun e w' => e = .returned v ∧ ∃ m, w' = w.drewN m :=
 h.mono fun _ _ ⟨he, q, hq⟩ => ⟨he, n + q, by rw [hq]; simp⟩
theorem infoInt : (Tryz.prog.info? 3).map (fun i => (i.zero, i.size, i.bytes)) = some (some (.int .i64 0), 1, 8) := by kernel_rfl
def RdT (w : World) (A : Option Addr) (n : Nat) (ls : List (List Int)) : Prop :=
 ls.length = n ∧ ∀ i l, ls[i]? = some l → ∃ b o A' n' c', A = some ⟨b, o, none⟩ ∧ w.cell? ⟨b, o + i, none⟩ = some (.slice A' n' c') ∧ RdI w A' n' l ∧ n' ≤ c' ∧ c' ≤ 9223372036854775807
theorem RdT.at_ {w : World} {A : Option Addr} {n i : Nat} {ls : List (List Int)} (h : RdT w A n ls) (hi : i < n) :
 ∃ b o A' n' c' l, A = some ⟨b, o, none⟩ ∧ ls[i]? = some l ∧ w.cell? ⟨b, o + i, none⟩ = some (.slice A' n' c') ∧ RdI w A' n' l ∧ n' ≤ c' ∧ c' ≤ 9223372036854775807 := by
 have hl : i < ls.length := by rw [h.1]; exact hi
 obtain ⟨b, o, A', n', c', h1, h2, h3, h4, h5⟩ := h.2 i _ (List.getElem?_eq_getElem hl)
 exact ⟨b, o, A', n', c', _, h1, List.getElem?_eq_getElem hl, h2, h3, h4, h5⟩
theorem RdT.below {w w' : World} {A : Option Addr} {n : Nat} {ls : List (List Int)} (h : RdT w A n ls) (hb : Below w.heap.size w w') : RdT w' A n ls :=
 ⟨h.1, fun i l hl => by
  obtain ⟨b, o, A', n', c', h1, h2, h3, h4, h5⟩ := h.2 i l hl
  exact ⟨b, o, A', n', c', h1, Below.cellOf hb (Nat.le_refl _) h2, h3.below hb, h4, h5⟩⟩
theorem Blk.two {w : World} {g : Nat} {t : TypeId} {a b : Value} (h : Blk w g t #[a, b]) :
 w.cell? ⟨g, 0, none⟩ = some a ∧ w.cell? ⟨g, 1, none⟩ = some b ∧ w.frozen? ⟨g, 0, none⟩ = false ∧ w.frozen? ⟨g, 1, none⟩ = false :=
 ⟨by rw [h.cell]; rfl, by rw [h.cell]; rfl, h.frozen 0, h.frozen 1⟩
theorem Blk.four {w : World} {g : Nat} {t : TypeId} {a b c d : Value} (h : Blk w g t #[a, b, c, d]) :
 w.cell? ⟨g, 0, none⟩ = some a ∧ w.cell? ⟨g, 1, none⟩ = some b ∧ w.cell? ⟨g, 2, none⟩ = some c ∧ w.cell? ⟨g, 3, none⟩ = some d :=
 ⟨by rw [h.cell]; rfl, by rw [h.cell]; rfl, by rw [h.cell]; rfl, by rw [h.cell]; rfl⟩
theorem Blk.grown {w w' : World} {g : Nat} {t : TypeId} {cs : Array Value} {r : Option Nat} (h : Blk w g t cs) (hg : w.grownBy w' r) (hne : r ≠ some g) : Blk w' g t cs :=
 (hg.block g h.lt (fun e => hne e.symm)).trans h
theorem Own.ne {w : World} {B s n c g : Nat} {e : TypeId} {A : Option Addr} {xs : List Value} (h : Own w B e s A n c xs) (hg : g < B) : blkOf A ≠ some g := fun e' => by
 have := (h.lt g e').1
 omega
theorem RdP.grown {w w' : World} {A : Option Addr} {n g : Nat} {l : List (Int × Int)} (h : RdP w A n l) (hg : w.grownBy w' (some g)) (hne : blkOf A ≠ some g) : RdP w' A n l :=
 ⟨h.1, fun i x hx => by
  obtain ⟨b, o, e, h1, h2⟩ := h.2 i x hx
  subst e
  have hbne : (some b : Option Nat) ≠ some g := hne
  have hb := lt_of_cell h1
  have hk := hg.block b hb (fun e => hbne e)
  refine ⟨b, o, rfl, ?_, ?_⟩
  all_goals
   unfold World.cell? at h1 h2 ⊢
   rw [hk]
   assumption⟩
theorem RdK.grown {k : IntKind} {w w' : World} {A : Option Addr} {n g : Nat} {l : List Int} (h : RdK k w A n l) (hg : w.grownBy w' (some g)) (hne : blkOf A ≠ some g) : RdK k w' A n l :=
 ⟨h.1, fun i x hx => by
  obtain ⟨b, o, e, hc⟩ := h.2 i x hx
  subst e
  refine ⟨b, o, rfl, ?_⟩
  have hb := lt_of_cell hc
  have hbne : (some b : Option Nat) ≠ some g := hne
  have := hg.block b hb (fun e => hbne e)
  unfold World.cell? at hc ⊢
  rw [this]
  exact hc⟩
theorem grownBy_set (W : World) (g i : Nat) (v : Value) : W.grownBy (W.setCell ⟨g, i, none⟩ v) (some g) where
 os := rfl
 tape := rfl
 output := rfl
 size := by simp [World.setCell]
 block := fun k hk hne => Below.heap_setCell W ⟨g, i, none⟩ v k (fun e => hne (by rw [e]))
theorem Own.capMax {w : World} {B s n c : Nat} {e : TypeId} {A : Option Addr} {xs : List Value} (h : Own w B e s A n c xs) : c ≤ 9223372036854775807 := by
 rcases h.2 with ⟨h', h0⟩ | ⟨g, cap, cur, h1, _, _, _, h4, _⟩
 · cases h'; omega
 · cases h1; unfold maxLen at h4; omega
theorem Own.block {w : World} {B s n c : Nat} {e : TypeId} {A : Option Addr} {xs : List Value} (h : Own w B e s A n c xs) (hn : 0 < n) :
 ∃ g cur, A = some ⟨g, 0, none⟩ ∧ B ≤ g ∧ Blk w g e cur ∧ n ≤ c ∧ cur.size = c * s ∧ ∀ (j : Nat) (u : Value), xs[j]? = some u → cur[j]? = some u := by
 rcases h.2 with ⟨_, h0⟩ | ⟨g, cap, cur, h1, h2, h3, h4, _, h6, h7⟩
 · omega
 · cases h1
   refine ⟨g, cur, rfl, h2, h3, h4, h6, fun j u hu => ?_⟩
   rw [← h7, List.getElem?_take] at hu
   split at hu
   · simpa using hu
   · cases hu
def RwO (W : World) (B : Nat) (t : TypeId) (A : Option Addr) (n c : Nat) (xs : List Value) (ls : List (List Int)) : Prop :=
 Own W B t 1 A n c xs ∧ ls.length = n ∧ ∀ (j : Nat) (l : List Int), ls[j]? = some l → ∃ A' n' c', xs[j]? = some (.slice A' n' c') ∧ RdI W A' n' l ∧ (∀ g, blkOf A' = some g → g < W.heap.size ∧ blkOf A ≠ some g) ∧ n' ≤ c' ∧ c' ≤ 9223372036854775807
theorem RwO.nil (W : World) (B : Nat) (t : TypeId) : RwO W B t none 0 0 [] [] := ⟨Own.nil _ _ _ _, rfl, fun j l h => by simp at h⟩
theorem RwO.rdT {W : World} {B n c : Nat} {t : TypeId} {A : Option Addr} {xs : List Value} {ls : List (List Int)} (h : RwO W B t A n c xs ls) : RdT W A n ls :=
 ⟨h.2.1, fun i l hl => by
  obtain ⟨A', n', c', h1, h2, _, h4, h5⟩ := h.2.2 i l hl
  obtain ⟨b, o, e, hc⟩ := h.1.rds.2 i _ h1
  exact ⟨b, o, A', n', c', e, hc, h2, h4, h5⟩⟩
theorem RwO.below {W W' : World} {B n c : Nat} {t : TypeId} {A : Option Addr} {xs : List Value} {ls : List (List Int)} (h : RwO W B t A n c xs ls) (hb : Below W.heap.size W W') : RwO W' B t A n c xs ls :=
 ⟨h.1.below hb, h.2.1, fun i l hl => by
  obtain ⟨A', n', c', h1, h2, h3, h4, h5⟩ := h.2.2 i l hl
  exact ⟨A', n', c', h1, h2.below hb, fun g hg => ⟨Nat.lt_of_lt_of_le (h3 g hg).1 hb.size, (h3 g hg).2⟩, h4, h5⟩⟩
theorem RdK.grownN {k : IntKind} {w w' : World} {A : Option Addr} {n : Nat} {r : Option Nat} {l : List Int} (h : RdK k w A n l) (hg : w.grownBy w' r) (hne : ∀ g, blkOf A = some g → r ≠ some g) : RdK k w' A n l :=
 ⟨h.1, fun i x hx => by
  obtain ⟨b, o, e, hc⟩ := h.2 i x hx
  subst e
  refine ⟨b, o, rfl, ?_⟩
  have hb := lt_of_cell hc
  have := hg.block b hb (fun e => hne b rfl e.symm)
  unfold World.cell? at hc ⊢
  rw [this]
  exact hc⟩
theorem RwO.push {W w' : World} {B n c c' m d : Nat} {t : TypeId} {A A' R : Option Addr} {xs : List Value} {ls : List (List Int)} {l : List Int} (h : RwO W B t A n c xs ls)
 (hown : Own w' B t 1 A' (n + 1) c' (xs ++ [.slice R m d])) (hg : W.grownBy w' (blkOf A)) (hat : blkOf A' = blkOf A ∨ blkOf A' = some W.heap.size)
 (hr : RdI W R m l) (hne : ∀ g, blkOf R = some g → g < W.heap.size ∧ blkOf A ≠ some g) (h4 : m ≤ d) (h5 : d ≤ 9223372036854775807) : RwO w' B t A' (n + 1) c' (xs ++ [.slice R m d]) (ls ++ [l]) := by
 have hxl : xs.length = ls.length := by rw [h.1.1, h.2.1]; omega
 have new : ∀ Y : Option Addr, (∀ g, blkOf Y = some g → g < W.heap.size ∧ blkOf A ≠ some g) → ∀ g, blkOf Y = some g → g < w'.heap.size ∧ blkOf A' ≠ some g := fun Y hY g e => by
  obtain ⟨k1, k2⟩ := hY g e
  refine ⟨Nat.lt_of_lt_of_le k1 hg.size, fun e2 => ?_⟩
  rcases hat with hat | hat
  · exact k2 (by rw [← hat]; exact e2)
  · rw [hat] at e2
    injection e2 with e2
    omega
 refine ⟨hown, by simp [h.2.1], fun j l' hl => ?_⟩
 rcases Nat.lt_trichotomy j ls.length with hj | hj | hj
 · rw [List.getElem?_append_left hj] at hl
   obtain ⟨A2, n2, c2, k1, k2, k3, k4, k5⟩ := h.2.2 j l' hl
   exact ⟨A2, n2, c2, by rw [List.getElem?_append_left (by omega)]; exact k1, k2.grownN hg (fun g e => (k3 g e).2), new A2 k3, k4, k5⟩
 · subst hj
   rw [List.getElem?_append_right (Nat.le_refl _), Nat.sub_self] at hl
   cases hl
   exact ⟨R, m, d, by rw [← hxl, List.getElem?_append_right (Nat.le_refl _), Nat.sub_self]; rfl, hr.grownN hg (fun g e => (hne g e).2), new R hne, h4, h5⟩
 · rw [List.getElem?_eq_none (by simp; omega)] at hl
   cases hl
theorem slice_one (R : Option Addr) (m d : Nat) : ∀ u ∈ [Value.slice R m d], u.oneCell' = true := by
 intro u hu
 simp at hu
 rw [hu]
 rfl
theorem RdB.grownN {w w' : World} {A : Option Addr} {n : Nat} {r : Option Nat} {l : List Bool} (h : RdB w A n l) (hg : w.grownBy w' r) (hne : ∀ g, blkOf A = some g → r ≠ some g) : RdB w' A n l :=
 ⟨h.1, fun i x hx => by
  obtain ⟨b, o, e, hc⟩ := h.2 i x hx
  subst e
  refine ⟨b, o, rfl, ?_⟩
  have hb := lt_of_cell hc
  have := hg.block b hb (fun e => hne b rfl e.symm)
  unfold World.cell? at hc ⊢
  rw [this]
  exact hc⟩
theorem blk_ne {g k o : Nat} (h : g ≠ k) : blkOf (some ⟨g, o, none⟩) ≠ some k := fun e => h (by injection e)
theorem Own.made {w : World} {B g s c : Nat} {e : TypeId} {cs : Array Value} (h : Blk w g e cs) (hB : B ≤ g) (hc : c ≤ 9223372036854775807) (hs : cs.size = c * s) : Own w B e s (some ⟨g, 0, none⟩) 0 c [] :=
 ⟨by simp, .inr ⟨g, c, cs, rfl, hB, h, Nat.zero_le _, (by unfold maxLen; exact hc), hs, by simp⟩⟩
theorem RdK.far {k : IntKind} {w : World} {A : Option Addr} {n g i : Nat} {l : List Int} (h : RdK k w A n l) (v : Value) (hne : blkOf A ≠ some g) : RdK k (w.setCell ⟨g, i, none⟩ v) A n l :=
 h.grown (grownBy_set w g i v) hne
theorem RdB.far {w : World} {A : Option Addr} {n g i : Nat} {l : List Bool} (h : RdB w A n l) (v : Value) (hne : blkOf A ≠ some g) : RdB (w.setCell ⟨g, i, none⟩ v) A n l :=
 ⟨h.1, fun j x hx => by
  obtain ⟨b, o, e, hc⟩ := h.2 j x hx
  subst e
  refine ⟨b, o, rfl, ?_⟩
  have hk := (grownBy_set w g i v).block b (lt_of_cell hc) (fun e => hne e)
  unfold World.cell? at hc ⊢
  rw [hk]
  exact hc⟩
theorem run_makeI (n : Nat) (hn : n ≤ 1000000000) (W : World) : (Instr.makeSlice 27 (.int .i64 (n : Int)) (.int .i64 (n : Int))).run Tryz.prog W = .ok (.slice (some ⟨W.heap.size, 0, none⟩) n n) (W.alloc (.cells (zeros (.int .i64 0) n) 3)) :=
 run_make1 (P := Tryz.prog) 27 3 (.int .i64 0) 8 infoInt Tryz.underlying27 rfl n (by omega) (by omega) .i64 .i64 W
theorem lit0 {W : World} {B : Nat} {t : TypeId} (hB : B ≤ W.heap.size) : Own (W.alloc (.cells #[] t)) B t 1 (some ⟨W.heap.size, 0, none⟩) 0 0 [] := Own.lit W #[] 0 hB (by omega) rfl
theorem blk_ne2 {g k : Nat} (h : g ≠ k) : blkOf (some ⟨g, 0, none⟩) ≠ blkOf (some ⟨k, 0, none⟩) := blk_ne h
theorem dj_new {W : World} {B s n c g : Nat} {e : TypeId} {A : Option Addr} {xs : List Value} (h : Own W B e s A n c xs) (hg : W.heap.size ≤ g) : Dj (some ⟨g, 0, none⟩) A := by
 cases hA : blkOf A with
 | none => exact .inr (.inl hA)
 | some k =>
  refine .inr (.inr ?_)
  rw [hA]
  exact blk_ne (by have := (h.lt k hA).2; omega)
theorem dj_two {A : Option Addr} {g a z : Nat} (h : blkOf A = blkOf (some ⟨a, 0, none⟩) ∨ blkOf A = some z) (h1 : g ≠ a) (h2 : g ≠ z) : Dj (some ⟨g, 0, none⟩) A := by
 rcases h with h | h
 · exact .inr (.inr (by rw [h]; exact blk_ne h1))
 · exact .inr (.inr (by rw [h]; exact blk_ne h2))

/-! Whichever way the next operations come up. -/
section
variable {P : Program} {ops : Array Oper} {Q : Exit → Act → World → Prop} {md : Region.Mode} {S : World → Prop}
def wpC (P : Program) (md : Region.Mode) (ops : Array Oper) (Q : Exit → Act → World → Prop) (S : World → Prop) (L : Array Bool) (C : Act → World → Prop) : Nat → Array Bool → Act → World → Prop
 | 0, listed, a, w => listed = L ∧ C a w
 | n + 1, listed, a, w => Region.ready md ops listed ≠ [] ∧ ∀ i ∈ Region.ready md ops listed, wpOp P ops Q i (fun a' w' => S w' ∧ wpC P md ops Q S L C n (listed.setIfInBounds i true) a' w') a w
theorem wpC_run {L : Array Bool} {C : Act → World → Prop} {f0 : Nat} (h : ∀ a w, C a w → wpAnyH P md ops Q S f0 L a w) : ∀ (n : Nat) (listed : Array Bool) (a : Act) (w : World), wpC P md ops Q S L C n listed a w → wpAnyH P md ops Q S (f0 + n) listed a w
 | 0, _, _, _, ⟨e, hc⟩ => by subst e; exact h _ _ hc
 | n + 1, listed, a, w, ⟨hne, hall⟩ => wpAnyH_all (fuel := f0 + n) rfl hne (fun i hi => wpOp_mono (fun a' w' h' => ⟨h'.1, wpC_run h n _ a' w' h'.2⟩) (hall i hi))
def AllC (P : Program) (md : Region.Mode) (ops : Array Oper) (Q : Exit → Act → World → Prop) (S : World → Prop) (L : Array Bool) (C : Act → World → Prop) (n : Nat) (listed : Array Bool) (a : Act) (w : World) (rs : List Nat) : Prop :=
 ∀ i ∈ rs, wpOp P ops Q i (fun a' w' => S w' ∧ wpC P md ops Q S L C n (listed.setIfInBounds i true) a' w') a w
theorem AllC.nil {L : Array Bool} {C : Act → World → Prop} {n : Nat} {listed : Array Bool} {a : Act} {w : World} : AllC P md ops Q S L C n listed a w [] := fun _ h => by cases h
theorem AllC.cons {L : Array Bool} {C : Act → World → Prop} {n : Nat} {listed : Array Bool} {a : Act} {w : World} {i : Nat} {o : Oper} {rs : List Nat} (ho : ops[i]? = some o)
 (h : ∀ K' : Act → World → Prop, Shut (∀ a w, S w → (S w → wpC P md ops Q S L C n (listed.setIfInBounds i true) a w) → K' a w) → if Region.wanted o (yielded ops a.tmps) = true then Oper.wp P o a w K' Q else K' (a.put o.dst undef) w)
 (hs : AllC P md ops Q S L C n listed a w rs) : AllC P md ops Q S L C n listed a w (i :: rs) := fun j hj => by
 rcases List.mem_cons.1 hj with rfl | hj
 · exact wpOp_step ho (fun K' hK => h K' (fun a w hS hW => hK a w ⟨hS, hW hS⟩))
 · exact hs j hj
theorem wpC_ready {L : Array Bool} {C : Act → World → Prop} {rs : List Nat} {n : Nat} {listed : Array Bool} {a : Act} {w : World} (hr : Region.ready md ops listed = rs) (hne : rs ≠ []) (h : AllC P md ops Q S L C n listed a w rs) : wpC P md ops Q S L C (n + 1) listed a w :=
 ⟨hr ▸ hne, hr ▸ h⟩
theorem wpAnyH_three {G : Value → Value → Value → World → Prop} {L listed : Array Bool} {f0 fuel : Nat} {a : Act} {w : World} (d1 d2 d3 : Option Tmp) (hf : fuel = f0 + 3)
 (hA : ∀ C : Act → World → Prop, Shut (∀ v1 v2 v3 w', G v1 v2 v3 w' → C (((a.put d1 v1).put d2 v2).put d3 v3) w') → wpC P md ops Q S L C 3 listed a w)
 (hB : ∀ v1 v2 v3 w', G v1 v2 v3 w' → wpAnyH P md ops Q S f0 L (((a.put d1 v1).put d2 v2).put d3 v3) w') : wpAnyH P md ops Q S fuel listed a w := by
 subst hf
 exact wpC_run (C := fun a' w' => wpAnyH P md ops Q S f0 L a' w') (fun _ _ h => h) 3 listed a w (hA _ hB)
end

/-! Shorter words (fill.py's TAKES, TAKEU, (by repeat (first | exact Below.refl _ _ | assumption | apply Below.drew | apply below_drewN | apply Bel.alloc | (refine Bel.setCell_ ?_ ?_; rotate_left; omega) | (refine Bel.step ?_ (by assumption)))), (by repeat (first | assumption | apply Blk.drewN | apply Blk.drew | apply Blk.alloc | (refine Blk.far_ ?_ ?_ _; rotate_left; omega))), (by repeat (first | assumption | (refine Blk.new' _ _ _ ?_; first | with_unfolding_all rfl | (simp; done)) | apply Blk.drewN | apply Blk.drew | apply Blk.alloc | (refine Blk.far_ ?_ ?_ _; rotate_left; omega)))) -/
theorem tv {p : Prop} (h : p := by (intro V hSw; (try (have hF := HSX.out V hSw)); (try (cases hSw)); (try go_split_ands); go_simp; try with_reducible rfl)) : p := h
section
variable {P : Program} {ops : Array Oper} {Q : Exit → Act → World → Prop} {md : Region.Mode} {S : World → Prop} {oi : Oper} {fuel : Nat} {listed : Array Bool} {a : Act} {w : World}
theorem tk (i d : Nat) (hi : ops[i]? = some oi := by rfl) (hd : oi.dst = some d := by rfl) (hs : Region.noSelect ops = true := by kernel_rfl) (hf : Region.free md ops listed i = true := by kernel_rfl) (hr : (Region.ready md ops listed).contains i = true := by kernel_rfl)
 (hQ : ∀ c a w v, Q (.panic c) (a.put oi.dst v) w → Q (.panic c) a w := by exact fun _ _ _ _ h => h) (hw : Region.wanted oi (yielded ops a.tmps) = true := by rfl) (hS : S w := by first | rfl | trivial | assumption)
 (h : ∃ v, (∀ w, S w → (execOp a.eval oi).run P w = .ok (.value v) w) ∧ wpAnyH P md ops Q S fuel (listed.setIfInBounds i true) (a.put (some d) v) w) : wpAnyH P md ops Q S (fuel + 1) listed a w := by
 obtain ⟨v, h1, h2⟩ := h
 exact take_ (i := i) (d := some d) (v := v) hi hd hs hf hr (fun c a w => hQ c a w v) hw h1 hS h2
theorem tu (i d : Nat) (hi : ops[i]? = some oi := by rfl) (hd : oi.dst = some d := by rfl) (hs : Region.noSelect ops = true := by kernel_rfl) (hf : Region.free md ops listed i = true := by kernel_rfl) (hr : (Region.ready md ops listed).contains i = true := by kernel_rfl)
 (hQ : ∀ c a w, Q (.panic c) (a.put oi.dst undef) w → Q (.panic c) a w := by exact fun _ _ _ h => h) (hw : Region.wanted oi (yielded ops a.tmps) = false := by rfl) (hS : S w := by first | rfl | trivial | assumption)
 (h : wpAnyH P md ops Q S fuel (listed.setIfInBounds i true) (a.put (some d) undef) w) : wpAnyH P md ops Q S (fuel + 1) listed a w :=
 takeU_ (i := i) (d := some d) hi hd hs hf hr hQ hw hS h
end
theorem pE (l : List Value) (ds : List Deferred) (k : Nat) (v : Value) : Act.put ⟨l.toArray, ds⟩ (some k) v = ⟨(l.set k v).toArray, ds⟩ := by simp [Act.put]
theorem bELt {B : Nat} {w w' : World} (h : Below B w w' := by repeat (first | exact Below.refl _ _ | assumption | apply Below.drew | apply below_drewN | apply Bel.alloc | (refine Bel.setCell_ ?_ ?_; rotate_left; omega) | (refine Bel.step ?_ (by assumption)))) : Below B w w' := h
theorem bLKt {w : World} {g : Nat} {t : TypeId} {cs : Array Value} (h : Blk w g t cs := by repeat (first | assumption | apply Blk.drewN | apply Blk.drew | apply Blk.alloc | (refine Blk.far_ ?_ ?_ _; rotate_left; omega))) : Blk w g t cs := h
theorem bLNt {w : World} {g : Nat} {t : TypeId} {cs : Array Value} (h : Blk w g t cs := by repeat (first | assumption | (refine Blk.new' _ _ _ ?_; first | with_unfolding_all rfl | (simp; done)) | apply Blk.drewN | apply Blk.drew | apply Blk.alloc | (refine Blk.far_ ?_ ?_ _; rotate_left; omega))) : Blk w g t cs := h
end Go.Proofs.YtpffhoefmcpniaaGreatDoor

namespace Go.Proofs.YtpffhoefmcpniaaGreatDoor
open Go.RowKit

abbrev Tri := Int × Int × Int
def tcells : List Tri → List Value
 | [] => []
 | p :: t => .int .i64 p.1 :: .int .i64 p.2.1 :: .int .i64 p.2.2 :: tcells t
theorem tcells_len : ∀ l : List Tri, (tcells l).length = l.length * 3
 | [] => rfl
 | _ :: t => by simp [tcells, tcells_len t]; omega
theorem tcells_app : ∀ l m : List Tri, tcells (l ++ m) = tcells l ++ tcells m
 | [], _ => rfl
 | p :: t, m => by simp [tcells, tcells_app t m]
theorem tcells_get : ∀ {l : List Tri} {i : Nat} {p : Tri}, l[i]? = some p → (tcells l)[i * 3]? = some (.int .i64 p.1) ∧ (tcells l)[i * 3 + 1]? = some (.int .i64 p.2.1) ∧ (tcells l)[i * 3 + 2]? = some (.int .i64 p.2.2)
 | [], i, p, h => by simp at h
 | q :: t, 0, p, h => by simp at h; subst h; simp [tcells]
 | q :: t, i + 1, p, h => by
  have := tcells_get (l := t) (i := i) (p := p) (by simpa using h)
  rw [show (i + 1) * 3 = i * 3 + 1 + 1 + 1 by omega, show i * 3 + 1 + 1 + 1 + 1 = (i * 3 + 1) + 1 + 1 + 1 by omega, show i * 3 + 1 + 1 + 1 + 2 = (i * 3 + 2) + 1 + 1 + 1 by omega]
  simpa [tcells] using this
theorem tcells_one (l : List Tri) : ∀ u ∈ tcells l, u.oneCell' = true := by
 induction l with
 | nil => intro u hu; cases hu
 | cons p t ih =>
  intro u hu
  simp only [tcells, List.mem_cons] at hu
  rcases hu with rfl | rfl | rfl | hu
  · rfl
  · rfl
  · rfl
  · exact ih u hu
def Rd3 (w : World) (A : Option Addr) (n : Nat) (l : List Tri) : Prop :=
 l.length = n ∧ ∀ i x, l[i]? = some x → ∃ b o, A = some ⟨b, o, none⟩ ∧ w.cell? ⟨b, o + i * 3, none⟩ = some (.int .i64 x.1) ∧ w.cell? ⟨b, o + i * 3 + 1, none⟩ = some (.int .i64 x.2.1) ∧ w.cell? ⟨b, o + i * 3 + 2, none⟩ = some (.int .i64 x.2.2)
theorem Rd3.at_ {w : World} {A : Option Addr} {n i : Nat} {l : List Tri} (h : Rd3 w A n l) (hi : i < n) :
 ∃ b o x y z, A = some ⟨b, o, none⟩ ∧ l[i]? = some (x, y, z) ∧ w.cell? ⟨b, o + i * 3, none⟩ = some (.int .i64 x) ∧ w.cell? ⟨b, o + i * 3 + 1, none⟩ = some (.int .i64 y) ∧ w.cell? ⟨b, o + i * 3 + 2, none⟩ = some (.int .i64 z) := by
 have hl : i < l.length := by rw [h.1]; exact hi
 obtain ⟨b, o, e, hc⟩ := h.2 i _ (List.getElem?_eq_getElem hl)
 exact ⟨b, o, _, _, _, e, List.getElem?_eq_getElem hl, hc⟩
theorem Rd3.below {w w' : World} {A : Option Addr} {n : Nat} {l : List Tri} (h : Rd3 w A n l) (hb : Below w.heap.size w w') : Rd3 w' A n l :=
 ⟨h.1, fun i x hx => by
  obtain ⟨b, o, e, h1, h2, h3⟩ := h.2 i x hx
  exact ⟨b, o, e, Below.cellOf hb (Nat.le_refl _) h1, Below.cellOf hb (Nat.le_refl _) h2, Below.cellOf hb (Nat.le_refl _) h3⟩⟩
theorem Rds.rd3 {w : World} {n : Nat} {A : Option Addr} {l : List Tri} (h : Rds w 3 A n (tcells l)) : Rd3 w A n l :=
 ⟨by have := h.1; rw [tcells_len] at this; omega, fun i p hp => by
  obtain ⟨h1, h2, h3⟩ := tcells_get hp
  obtain ⟨b, o, e, c1⟩ := h.2 _ _ h1
  obtain ⟨b', o', e', c2⟩ := h.2 _ _ h2
  rw [e] at e'; cases e'
  obtain ⟨b', o', e', c3⟩ := h.2 _ _ h3
  rw [e] at e'; cases e'
  exact ⟨b, o, e, c1, by rw [Nat.add_assoc]; exact c2, by rw [Nat.add_assoc]; exact c3⟩⟩
theorem tcells_at : ∀ {l : List Tri} {j : Nat} {u : Value}, (tcells l)[j]? = some u → ∃ p, l[j / 3]? = some p ∧ ((j % 3 = 0 ∧ u = .int .i64 p.1) ∨ (j % 3 = 1 ∧ u = .int .i64 p.2.1) ∨ (j % 3 = 2 ∧ u = .int .i64 p.2.2))
 | [], j, u, h => by simp [tcells] at h
 | q :: t, 0, u, h => by simp [tcells] at h; exact ⟨q, by simp, .inl ⟨rfl, h.symm⟩⟩
 | q :: t, 1, u, h => by simp [tcells] at h; exact ⟨q, by simp, .inr (.inl ⟨rfl, h.symm⟩)⟩
 | q :: t, 2, u, h => by simp [tcells] at h; exact ⟨q, by simp, .inr (.inr ⟨rfl, h.symm⟩)⟩
 | q :: t, j + 3, u, h => by
  obtain ⟨p, h1, h2⟩ := tcells_at (l := t) (j := j) (u := u) (by simpa [tcells] using h)
  refine ⟨p, ?_, ?_⟩
  · rw [show (j + 3) / 3 = j / 3 + 1 by omega]; simpa using h1
  · rw [show (j + 3) % 3 = j % 3 by omega]; exact h2
theorem Rd3.rds {w : World} {n : Nat} {A : Option Addr} {l : List Tri} (h : Rd3 w A n l) : Rds w 3 A n (tcells l) :=
 ⟨by rw [tcells_len, h.1], fun j u hu => by
  obtain ⟨p, hp, hu'⟩ := tcells_at hu
  obtain ⟨b, o, e, h1, h2, h3⟩ := h.2 _ p hp
  refine ⟨b, o, e, ?_⟩
  rcases hu' with ⟨hm, rfl⟩ | ⟨hm, rfl⟩ | ⟨hm, rfl⟩
  · rw [show o + j = o + j / 3 * 3 by omega]; exact h1
  · rw [show o + j = o + j / 3 * 3 + 1 by omega]; exact h2
  · rw [show o + j = o + j / 3 * 3 + 2 by omega]; exact h3⟩

structure TabD where
 ins : Int
 outs : Int
 costs : List Int
def TabAt (w : World) (b o : Nat) (t : TabD) : Prop := w.cell? ⟨b, o, none⟩ = some (.int .i64 t.ins) ∧ w.cell? ⟨b, o + 1, none⟩ = some (.int .i64 t.outs) ∧ ∃ (A : Option Addr) (n c : Nat), w.cell? ⟨b, o + 2, none⟩ = some (.slice A n c) ∧ RdI w A n t.costs ∧ n ≤ c ∧ c ≤ 9223372036854775807
theorem TabAt.below {w w' : World} {b o : Nat} {t : TabD} (h : TabAt w b o t) (hb : Below w.heap.size w w') : TabAt w' b o t := by
 obtain ⟨h1, h2, A, n, c, h3, h4, h5⟩ := h
 exact ⟨Below.cellOf hb (Nat.le_refl _) h1, Below.cellOf hb (Nat.le_refl _) h2, A, n, c, Below.cellOf hb (Nat.le_refl _) h3, h4.below hb, h5⟩
def RdY (w : World) (A : Option Addr) (n : Nat) (l : List TabD) : Prop := l.length = n ∧ ∀ i t, l[i]? = some t → ∃ b o, A = some ⟨b, o, none⟩ ∧ TabAt w b (o + i * 3) t
theorem RdY.at_ {w : World} {A : Option Addr} {n i : Nat} {l : List TabD} (h : RdY w A n l) (hi : i < n) : ∃ b o t, A = some ⟨b, o, none⟩ ∧ l[i]? = some t ∧ TabAt w b (o + i * 3) t := by
 have hl : i < l.length := by rw [h.1]; exact hi
 obtain ⟨b, o, e, hc⟩ := h.2 i _ (List.getElem?_eq_getElem hl)
 exact ⟨b, o, _, e, List.getElem?_eq_getElem hl, hc⟩
theorem RdY.below {w w' : World} {A : Option Addr} {n : Nat} {l : List TabD} (h : RdY w A n l) (hb : Below w.heap.size w w') : RdY w' A n l :=
 ⟨h.1, fun i t ht => by obtain ⟨b, o, e, hc⟩ := h.2 i t ht; exact ⟨b, o, e, hc.below hb⟩⟩

structure NetD where
 vs : List Tri
 ar : List Tri
 ts : List TabD
def RdNet (w : World) (A B C : Option Addr) (n m k : Nat) (N : NetD) : Prop := Rd3 w A n N.vs ∧ Rd3 w B m N.ar ∧ RdY w C k N.ts
theorem RdNet.below {w w' : World} {A B C : Option Addr} {n m k : Nat} {N : NetD} (h : RdNet w A B C n m k N) (hb : Below w.heap.size w w') : RdNet w' A B C n m k N := ⟨h.1.below hb, h.2.1.below hb, h.2.2.below hb⟩

def wOk (a : Int) : Bool := (decide (0 ≤ a) && decide (a ≤ 2147483648)) || decide (a = 1152921504606846976)
def coordB (x : Int) : Bool := decide (-1048576 ≤ x) && decide (x ≤ 1048576)
structure TabOk (t : TabD) : Prop where
 i0 : 0 ≤ t.ins
 i16 : t.ins ≤ 16
 o0 : 0 ≤ t.outs
 o16 : t.outs ≤ 16
 len : (t.costs.length : Int) = t.ins * t.outs
 ok : ∀ c ∈ t.costs, wOk c = true
def cntTo (l : List Tri) (v : Nat) : Nat := l.countP (fun a => a.2.1 == (v : Int))
def cntFr (l : List Tri) (v : Nat) : Nat := l.countP (fun a => a.1 == (v : Int))
structure VertOk (k : Nat) (v : Tri) : Prop where
 x : coordB v.1 = true
 y : coordB v.2.1 = true
 t0 : 0 ≤ v.2.2
 t1 : v.2.2 < k
structure ArcOk (n : Nat) (a : Tri) : Prop where
 f0 : 0 ≤ a.1
 f1 : a.1 < n
 g0 : 0 ≤ a.2.1
 g1 : a.2.1 < n
 w : wOk a.2.2 = true
structure NetOk (N : NetD) : Prop where
 lv : N.vs.length ≤ 4096
 la : N.ar.length ≤ 16384
 lt : N.ts.length ≤ 256
 tabs : ∀ t ∈ N.ts, TabOk t
 verts : ∀ v ∈ N.vs, VertOk N.ts.length v
 arcs : ∀ a ∈ N.ar, ArcOk N.vs.length a
 meet : ∀ (i : Nat) v t, N.vs[i]? = some v → N.ts[v.2.2.toNat]? = some t → (cntTo N.ar i : Int) = t.ins ∧ (cntFr N.ar i : Int) = t.outs
end Go.Proofs.YtpffhoefmcpniaaGreatDoor
