/- Parts of the proof: Ne9. -/
import Derived.Test.YtpffhoefmcpniaaGreatDoorW1
import Derived.Test.YtpffhoefmcpniaaGreatDoorW42
/- nest.Build: its cells; what is read over stores. -/
namespace Go.Proofs.YtpffhoefmcpniaaGreatDoor
open Go.RowKit

theorem RdK.notBlk {k : IntKind} {W : World} {A : Option Addr} {n g : Nat} {l : List Int} {t : TypeId} {cur : Array Value} (h : RdK k W A n l) (hn : 0 < n) (hB : Blk W g t cur) (hs : ∀ (j : Nat) v, cur[j]? = some v → ∃ D m c, v = .slice D m c) : blkOf A ≠ some g := fun e => by
  obtain ⟨b, o, x, rfl, _, hc⟩ := h.at_ hn
  have e : some b = some g := e
  injection e with e
  subst e
  rw [hB.cell] at hc
  obtain ⟨D, m, c, hv⟩ := hs _ _ hc
  cases hv
/-- The cells of the levels: rows from i on are told. -/
structure CelI (W : World) (g L i n T : Nat) (rw_ : Nat → List Int) : Prop where
  ex : ∃ cur : Array Value, Blk W g 27 cur ∧ cur.size = L ∧ (∀ (j : Nat) v, cur[j]? = some v → ∃ D m c, v = .slice D m c) ∧ ∀ j, i ≤ j → j < L → ∃ A, cur[j]? = some (.slice A n n) ∧ RdI W A n (rw_ j) ∧ ∀ q, blkOf A = some q → g < q ∧ q < T
  gT : g < T
  TW : T ≤ W.heap.size
section
variable {W W' : World} {g L i n T T' gr : Nat} {rw_ : Nat → List Int}
theorem CelI.start (h : Blk W g 27 (zeros (.slice none 0 0) L)) : CelI W g L L n W.heap.size rw_ := by
  refine ⟨⟨_, h, by simp [zeros], fun j v hv => ?_, fun j h1 h2 => by omega⟩, h.lt, Nat.le_refl _⟩
  unfold zeros at hv
  rw [List.getElem?_toArray, List.getElem?_replicate] at hv
  split at hv
  · exact ⟨none, 0, 0, (Option.some.inj hv).symm⟩
  · cases hv
theorem CelI.below (h : CelI W g L i n T rw_) (hb : Below W.heap.size W W') : CelI W' g L i n T rw_ := by
  obtain ⟨⟨cur, h1, h2, h3, h4⟩, h5, h6⟩ := h
  exact ⟨⟨cur, h1.below hb h1.lt, h2, h3, fun j a b => by
    obtain ⟨A, k1, k2, k3⟩ := h4 j a b
    exact ⟨A, k1, k2.below hb, k3⟩⟩, h5, Nat.le_trans h6 hb.size⟩
theorem CelI.far {r : Option Nat} (h : CelI W g L i n T rw_) (hg : W.grownBy W' r) (hr : ∀ k, r = some k → T ≤ k) : CelI W' g L i n T rw_ := by
  obtain ⟨⟨cur, h1, h2, h3, h4⟩, h5, h6⟩ := h
  exact ⟨⟨cur, h1.grown hg (fun e => by have := hr g e; omega), h2, h3, fun j a b => by
    obtain ⟨A, k1, k2, k3⟩ := h4 j a b
    exact ⟨A, k1, k2.grownN hg (fun q hq e => by have := hr q e; have := (k3 q hq).2; omega), k3⟩⟩, h5, Nat.le_trans h6 hg.size⟩
theorem CelI.put {D : Option Addr} {m c : Nat} (h : CelI W g L (i + 1) n T rw_) : CelI (W.setCell ⟨g, i, none⟩ (.slice D m c)) g L (i + 1) n T rw_ := by
  obtain ⟨⟨cur, h1, h2, h3, h4⟩, h5, h6⟩ := h
  refine ⟨⟨_, h1.set_ i _, by simp [h2], fun j v hv => ?_, fun j a b => ?_⟩, h5, by simpa [World.setCell] using h6⟩
  · rw [Array.getElem?_setIfInBounds] at hv
    split at hv
    · split at hv
      · exact ⟨D, m, c, (Option.some.inj hv).symm⟩
      · cases hv
    · exact h3 j v hv
  · obtain ⟨A, k1, k2, k3⟩ := h4 j a b
    refine ⟨A, ?_, k2.far _ (fun e => Nat.lt_irrefl _ (k3 g e).1), k3⟩
    rw [Array.getElem?_setIfInBounds, if_neg (by omega)]
    exact k1
theorem CelI.cells (h : CelI W g L i n T rw_) {j : Nat} (hj : j < L) : (∃ v, W.cell? ⟨g, j, none⟩ = some v) ∧ W.frozen? ⟨g, j, none⟩ = false ∧ g < W.heap.size := by
  obtain ⟨⟨cur, h1, h2, h3, h4⟩, h5, h6⟩ := h
  exact ⟨⟨cur[j]'(by omega), by rw [h1.cell]; exact Array.getElem?_eq_getElem _⟩, h1.frozen j, h1.lt⟩
theorem CelI.fin {t : TypeId} (h : CelI W g L (i + 1) n T rw_) (hc : W.cell? ⟨g, i, none⟩ = some (.slice (some ⟨gr, 0, none⟩) n n)) (hr : Blk W gr t (ints (rw_ i))) (hl : (rw_ i).length = n) (hne : g < gr) : CelI W g L i n W.heap.size rw_ := by
  obtain ⟨⟨cur, h1, h2, h3, h4⟩, h5, h6⟩ := h
  refine ⟨⟨cur, h1, h2, h3, fun j a b => ?_⟩, h1.lt, Nat.le_refl _⟩
  by_cases e : j = i
  · subst e
    refine ⟨some ⟨gr, 0, none⟩, by rw [← h1.cell]; exact hc, hr.rdI hl, fun q hq => ?_⟩
    have hq : some gr = some q := hq
    injection hq with hq
    subst hq
    exact ⟨hne, hr.lt⟩
  · obtain ⟨A, k1, k2, k3⟩ := h4 j (by omega) b
    exact ⟨A, k1, k2, fun q hq => ⟨(k3 q hq).1, Nat.lt_of_lt_of_le (k3 q hq).2 h6⟩⟩
theorem CelI.notBlk (h : CelI W g L i n T rw_) {A : Option Addr} {m : Nat} {l : List Int} (hr : RdI W A m l) (hm : 0 < m) : blkOf A ≠ some g := by
  obtain ⟨⟨cur, h1, _, h3, _⟩, _⟩ := h
  exact hr.notBlk hm h1 h3
theorem CelI.rdT (h : CelI W g L 0 n T rw_) (hn : n ≤ 9223372036854775807) : RdT W (some ⟨g, 0, none⟩) L ((List.range L).map rw_) := by
  obtain ⟨⟨cur, h1, h2, h3, h4⟩, _⟩ := h
  refine ⟨by simp, fun j l hl => ?_⟩
  have hj : j < L := by have := (List.getElem?_eq_some_iff.1 hl).1; simpa using this
  rw [List.getElem?_map, List.getElem?_range hj] at hl
  have hl : rw_ j = l := Option.some.inj hl
  obtain ⟨A, k1, k2, _⟩ := h4 j (Nat.zero_le _) hj
  exact ⟨g, 0, A, n, n, rfl, by rw [Nat.zero_add, h1.cell]; exact k1, by rw [← hl]; exact k2, Nat.le_refl _, hn⟩
theorem CelI.rdTm (h : CelI W g L 0 n T rw_) (hn : n ≤ 9223372036854775807) {G : Nat → Prop} (hG : ∀ q, g ≤ q → G q) : RdT (msk W G) (some ⟨g, 0, none⟩) L ((List.range L).map rw_) := by
  obtain ⟨⟨cur, h1, h2, h3, h4⟩, _⟩ := h
  refine ⟨by simp, fun j l hl => ?_⟩
  have hj : j < L := by have := (List.getElem?_eq_some_iff.1 hl).1; simpa using this
  rw [List.getElem?_map, List.getElem?_range hj] at hl
  have hl : rw_ j = l := Option.some.inj hl
  obtain ⟨A, k1, k2, k3⟩ := h4 j (Nat.zero_le _) hj
  exact ⟨g, 0, A, n, n, rfl, msk_cell.2 ⟨hG g (Nat.le_refl _), by rw [Nat.zero_add, h1.cell]; exact k1⟩, by rw [← hl]; exact k2.msk (fun q hq => hG q (Nat.le_of_lt (k3 q hq).1)), Nat.le_refl _, hn⟩
end
theorem PcR.far {N : NetD} {AL A : Option Addr} {W W' : World} {B n c : Nat} {xs : List Value} {ps : List (List Nat)} {r : Option Nat} (h : PcR N AL W B A n c xs ps) (hg : W.grownBy W' r) (hA : ∀ k, r = some k → blkOf A ≠ some k) (hE : ∀ (D : Option Addr) (m : Nat) (l : List Int), 0 < m → RdI W D m l → ∀ g, blkOf D = some g → r ≠ some g) : PcR N AL W' B A n c xs ps := by
  refine ⟨h.own.far hg ?_, h.len, fun j p hp => ?_⟩
  · cases e : blkOf A with
    | none => exact .inl rfl
    | some q => exact .inr (fun e2 => hA q e2.symm e)
  · obtain ⟨A1, c1, A2, c2, h1, h2, h3, h4⟩ := h.at_ j p hp
    exact ⟨A1, c1, A2, c2, h1, h2, h3.grown hg (fun q h0 hq => hE _ _ _ h0 h3.r1 q hq) (fun q h0 hq => hE _ _ _ h0 h3.r2 q hq), fun q hq => ⟨Nat.lt_of_lt_of_le (h4 q hq).1 hg.size, (h4 q hq).2⟩⟩
theorem rowsN_range (N : NetD) (bs : List Nat) : rowsN N bs = (List.range bs.length).map (fun j => rowN N.vs.length (downP N (bs.drop j))) := by
  apply List.ext_getElem?
  intro i
  rcases Nat.lt_or_ge i bs.length with h | h
  · rw [rowsN_get N bs i h, List.getElem?_map, List.getElem?_range h]
    rfl
  · rw [List.getElem?_eq_none (by rw [rowsN_len]; exact h), List.getElem?_eq_none (by simpa using h)]
theorem downP_ok (N : NetD) (bs : List Nat) : ∀ p ∈ downP N bs, PcOk N.vs.length p := (downP_perm N bs).2
theorem downP_drop (N : NetD) {bs : List Nat} {i b : Nat} (h : bs[i]? = some b) : downP N (bs.drop i) = nxt N b (downP N (bs.drop (i + 1))) := by
  obtain ⟨h1, e1⟩ := List.getElem?_eq_some_iff.1 h
  rw [List.drop_eq_getElem_cons h1, e1]
  rfl
theorem iota_nats (n : Nat) : iota n = nats (List.range n) := rfl
end Go.Proofs.YtpffhoefmcpniaaGreatDoor
