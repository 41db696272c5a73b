/- Parts of the proof: QCu4. -/
import Derived.Test.YtpffhoefmcpniaaGreatDoorW1
import Derived.Test.YtpffhoefmcpniaaGreatDoorW37
/- cut.All, cut.Best. -/
namespace Go.Proofs.YtpffhoefmcpniaaGreatDoor
open Go.RowKit

attribute [local go_sem ↓] Go.wp_at_zero Go.wp_at_succ

/-- What All leaves. -/
def AllPost (E l : List (Int × Int)) (w : World) (e : Ending) (w' : World) : Prop := ∃ (A' : Option Addr) (c' : Nat) (L : List Spl), e = .returned (.tuple #[.slice A' 12 c', .nilIface]) ∧ RdS w' A' 12 L ∧ IsAll E l 12 L ∧ 12 ≤ c' ∧ c' ≤ 9223372036854775807 ∧ Below w.heap.size w w'
set_option maxHeartbeats 4000000 in
theorem cutAll_any (A B : Option Addr) (n m c d : Nat) (l E : List (Int × Int)) (w : World) (h : RdP w A n l) (hE : RdP w B m E) (hG : Good l E) (hn : n ≤ 4096) (hm : m ≤ 16384) :
    Calls Tryz.prog 91 #[.slice A n c, .slice B m d] w (AllPost E l w) := by
  have HCK := Lib.hid (cutCheck_ok A B n m c d l E w h hE (by rw [← h.1]; exact hG.1) hn hm hG.2.1 (by rw [← h.1]; exact hG.2.2))
  have HT := Lib.hid (show ∀ (k : Nat) (V : World), k ≤ 3 → Below w.heap.size w V → Calls Tryz.prog 97 #[.slice A n c, .slice B m d, .int .i64 k] V fun e w' => ∃ (A' : Option Addr) (c' : Nat) (M : List (Value × Spl)), e = .returned (.tuple #[.slice A' 3 c', .nilIface]) ∧ SpO w' V.heap.size 162 A' 3 c' M ∧ (∀ p ∈ M, FreshAt V.heap.size p) ∧ (∀ i p, M[i]? = some p → IsSpl E l (3 * k + i) p.2) ∧ Below V.heap.size V w' from
    fun k V hk hV => toward_any A B n m c d k l E V (h.below hV) (hE.below hV) hG hn hm hk)
  have hmk := run_make12
  clear h hE hG
  go_enter Tryz.func91, Tryz.ntmps91
  go_wp2_with fail
  with_reducible refine HCK.out.mono ?_
  rintro e w1 ⟨rfl, b1⟩
  go_wp2_with fail
  (refine wp_named ?_; intro w2 hw2)
  have b2 : Below w.heap.size w w2 := by rw [hw2]; exact bELt
  have hA2 : Blk w2 w1.heap.size 162 (spZ 12) := by rw [hw2]; exact bLNt
  have hz1 := b1.size
  have hown2 : Own w2 w.heap.size 162 4 (some ⟨w1.heap.size, 0, none⟩) 0 12 [] := Own.made hA2 hz1 (by omega) (by rfl)
  clear hw2 hmk HCK b1 hA2
  go_loopw [7, 18] (fun v i W => ∃ (k q : Nat) (A6 : Option Addr) (c6 : Nat) (L : List (Value × Spl)), k ≤ 4 ∧ i = .int .i64 k ∧ v = .slice A6 q c6 ∧ q = 3 * k ∧ SpO W w.heap.size 162 A6 q c6 L ∧ (∀ i p, L[i]? = some p → IsSpl E l i p.2) ∧ Below w.heap.size w W) (fun _ i _ => 4 - (intOf i).toNat)
  case atStart => exact ⟨0, 0, _, 12, [], by omega, rfl, rfl, rfl, ⟨hown2, rfl, fun p hp => by cases hp⟩, fun i p hp => by simp at hp, b2⟩
  case round =>
    clear hown2 b2
    obtain ⟨k, q, A6, c6, L, hk, rfl, rfl, hq, hsp, hspl, hbl⟩ := hrel
    have HSP := Lib.hid hspl
    have HQ := Lib.hid hq
    have hq9 : q ≤ 12 := by omega
    clear hq
    by_cases hlt : k < 4
    · have HC := Lib.hid (HT.out k wr (by omega) hbl)
      have HS := Lib.hid hsp
      have i2 : (k : Int) < 4 := by omega
      clear hspl hsp
      go_wp2_with fail
      with_reducible refine HC.out.mono ?_
      rintro e w3 ⟨A3, c3, M, rfl, hM, hfr, hsplM, b3⟩
      have hz := hbl.size
      have hb3 : Below w.heap.size w w3 := Bel.step hbl b3
      have own3 := HS.out.1.below b3
      have hrd := hM.1.rds
      have hone := scells_one hM.2.2
      have hz3 := hb3.size
      have HSM := Lib.hid (show ∀ p ∈ M, SideAt w3 A6 p from fun p hp => by
        obtain ⟨A', n', c', q1, q2, q3, q4⟩ := hM.2.2 p hp
        exact ⟨A', n', c', q1, q2, q3, fun g hg => ⟨(q4 g hg).1, fun e => by
          have h1 := (HS.out.1.lt g e).2
          have h2 := hfr p hp A' n' c' g q1 hg
          omega⟩⟩)
      have HS3 := Lib.hid (HS.out.below b3)
      have HM := Lib.hid hsplM
      have HML := Lib.hid hM.2.1
      clear hM hfr hsplM b3 HC HS hbl
      go_wp2_with (at_builtin; with_reducible refine wpList_app rfl (.tmp 31) (.tmp 32) 187 rfl 162 _ 4 48 infoSplit Tryz.underlying187 rfl (by omega) rfl rfl own3 hrd hone (by omega) (by omega) hz3 ?_)
      intro A7 c7 w4 own4 hg4 hat4
      have hb4 : Below w.heap.size w w4 := Bel.grownOwn hb3 hg4 own3 hz3
      have HS4 := Lib.hid (HS3.out.push own4 hg4 hat4 HML.out HSM.out)
      have HL4 := Lib.hid HS3.out.2.1
      clear own3 hrd hone own4 hg4 hat4 hb3 HS3
      go_wp2_with fail
      go_roundw
      case rel => exact ⟨k + 1, q + 3, A7, c7, L ++ M, by omega, by go_num, rfl, (by have := HQ.out; omega), HS4.out, fun i p hp => by
        rcases Nat.lt_or_ge i L.length with h1 | h1
        · rw [List.getElem?_append_left h1] at hp
          exact HSP.out i p hp
        · rw [List.getElem?_append_right h1] at hp
          have := HM.out _ p hp
          rw [HL4.out] at this h1
          rw [show 3 * k + (i - q) = i by have := HQ.out; omega] at this
          exact this, hb4⟩
      case measure => simp [intOf]; omega
    · obtain rfl : k = 4 := by omega
      obtain rfl : q = 12 := by have := HQ.out; omega
      have HS := Lib.hid hsp
      clear hsp hspl
      go_wp2_with fail
      go_ret2
      exact ⟨A6, c6, L.map (·.2), rfl, HS.out.rdS, ⟨by rw [List.length_map]; exact HS.out.2.1, fun i s hs => by
        rw [List.getElem?_map] at hs
        cases e : L[i]? with
        | none => rw [e] at hs; cases hs
        | some p => rw [e] at hs; cases hs; exact HSP.out i p e⟩, HS.out.1.cap, HS.out.1.capMax, hbl⟩

theorem cutAll_short (A B : Option Addr) (n m c d : Nat) (w : World) (h2 : n < 2) :
    Calls Tryz.prog 91 #[.slice A n c, .slice B m d] w fun e w' => ∃ v, e = .returned (.tuple #[.slice none 0 0, v]) ∧ Chain w' v [(⟨#[99, 117, 116]⟩, 0)] 1 ∧ Below w.heap.size w w' := by
  have HF := Lib.hid (cutCheck_short A B n m c d w h2)
  clear h2
  go_enter Tryz.func91, Tryz.ntmps91
  go_wp2_with fail
  with_reducible refine HF.out.mono ?_
  rintro e w2 ⟨v, rfl, hch, hb⟩
  obtain ⟨t, x, rfl⟩ := chain_not_nil hch
  have HC := Lib.hid hch
  clear hch
  go_wp2_with fail
  go_ret2
  exact ⟨_, rfl, HC.out, hb⟩

theorem RdS.cut1 {w : World} {b o m : Nat} {L : List Spl} (h : RdS w (some ⟨b, o, none⟩) m L) : RdS w (some ⟨b, o + 4, none⟩) (m - 1) (L.drop 1) :=
  ⟨by rw [List.length_drop, h.1], fun i s hs => by
    rw [List.getElem?_drop] at hs
    obtain ⟨b', o', A', n', c', e, h1, h2, h3, h4, h5, h6⟩ := h.2 _ s hs
    cases e
    rw [show o + (1 + i) * 4 = o + 4 + i * 4 by omega] at h1 h2 h3 h4
    exact ⟨b, o + 4, A', n', c', rfl, h1, h2, h3, h4, h5, h6⟩⟩
/-- A split as it is told: its four parts. -/
def RdSp (w : World) (v : Value) (s : Spl) : Prop := ∃ (A : Option Addr) (n c : Nat), v = .agg #[.slice A n c, .int .i64 s.cross, .int .i64 s.dir, .int .i64 s.kind] ∧ RdB w A n s.side ∧ n ≤ c

theorem cutBest_short (A B : Option Addr) (n m c d : Nat) (w : World) (h2 : n < 2) :
    Calls Tryz.prog 82 #[.slice A n c, .slice B m d] w fun e w' => ∃ v, e = .returned (.tuple #[.agg #[.slice none 0 0, .int .i64 0, .int .i64 0, .int .i64 0], v]) ∧ Chain w' v [(⟨#[99, 117, 116]⟩, 0)] 1 ∧ Below w.heap.size w w' := by
  have HF := Lib.hid (fun V => cutAll_short A B n m c d V h2)
  clear h2
  go_enter Tryz.func82, Tryz.ntmps82
  go_wp2_with fail
  (refine calls_named ?_; intro w1 hw1)
  have hb1 : Below w.heap.size w w1 := by rw [hw1]; exact bELt
  have hR1 : Blk w1 w.heap.size 162 #[.slice none 0 0, .int .i64 0, .int .i64 0, .int .i64 0] := by rw [hw1]; exact bLNt
  clear hw1
  with_reducible refine (HF.out _).mono ?_
  rintro e w2 ⟨v, rfl, hch, hb⟩
  have hR2 := hR1.below hb hR1.lt
  have hb2 : Below w.heap.size w w2 := Bel.step hb1 hb
  obtain ⟨t, x, rfl⟩ := chain_not_nil hch
  have HC := Lib.hid hch
  obtain ⟨c0, c1, c2, c3⟩ := hR2.four
  have f0 := hR2.frozen 0
  have f1 := hR2.frozen 1
  have f2 := hR2.frozen 2
  have f3 := hR2.frozen 3
  clear hch hR1 hb hb1
  go_wp2_with fail
  obtain ⟨w3, hw3⟩ : ∃ w3, w3 = (((w2.setCell ⟨w.heap.size, 0, none⟩ (.slice none 0 0)).setCell ⟨w.heap.size, 1, none⟩ (.int .i64 0)).setCell ⟨w.heap.size, 2, none⟩ (.int .i64 0)).setCell ⟨w.heap.size, 3, none⟩ (.int .i64 0) := ⟨_, rfl⟩
  rw [← hw3]
  have hR3 : Blk w3 w.heap.size 162 #[.slice none 0 0, .int .i64 0, .int .i64 0, .int .i64 0] := by rw [hw3]; exact (((hR2.set_ 0 _).set_ 1 _).set_ 2 _).set_ 3 _
  have hb3 : Below w.heap.size w w3 := by rw [hw3]; exact (((hb2.setCell (Nat.le_refl _) _).setCell (Nat.le_refl _) _).setCell (Nat.le_refl _) _).setCell (Nat.le_refl _) _
  have hch3 : Chain w3 (.iface t x) [(⟨#[99, 117, 116]⟩, 0)] 1 := by
    obtain ⟨b, o, u, e, k1, k2, k3, k4⟩ := HC.out
    have hne : b ≠ w.heap.size := fun e => by
      subst e
      rw [hR2.cell] at k1
      match o, k1 with
      | 0, k1 => cases k1
      | 1, k1 => cases k1
      | 2, k1 => cases k1
      | 3, k1 => cases k1
      | o + 4, k1 => simp at k1
    have hk : ∀ i, w3.cell? ⟨b, i, none⟩ = w2.cell? ⟨b, i, none⟩ := fun i => by
      unfold World.cell?
      rw [hw3, Below.heap_setCell _ _ _ b hne, Below.heap_setCell _ _ _ b hne, Below.heap_setCell _ _ _ b hne, Below.heap_setCell _ _ _ b hne]
    exact ⟨b, o, u, e, by rw [hk]; exact k1, by rw [hk]; exact k2, by rw [hk]; exact k3, k4⟩
  have HC3 := Lib.hid hch3
  clear hch3 hw3 c0 c1 c2 c3
  obtain ⟨c0, c1, c2, c3⟩ := hR3.four
  refine bodyPost_ret (v := .tuple #[.agg #[.slice none 0 0, .int .i64 0, .int .i64 0, .int .i64 0], .iface t x]) (by simp [results, Tryz.results82, go_sem, c0, c1, c2, c3]) rfl ?_
  exact ⟨_, rfl, HC3.out, hb3⟩

theorem RdB.notS {W : World} {A B : Option Addr} {n k c g : Nat} {b : List Bool} {t : TypeId} {x y z : Int} (hB : Blk W g t #[.slice B k c, .int .i64 x, .int .i64 y, .int .i64 z]) (hn : 0 < n) (h : RdB W A n b) : blkOf A ≠ some g := fun e => by
  obtain ⟨b', o, v, ea, _, hc⟩ := h.at_ hn
  subst ea
  obtain rfl : b' = g := by injection e
  rw [Nat.add_zero, hB.cell] at hc
  match o, hc with
  | 0, hc => cases hc
  | 1, hc => cases hc
  | 2, hc => cases hc
  | 3, hc => cases hc
  | o + 4, hc => simp at hc
/-- What Best leaves. -/
def BestPost (E l : List (Int × Int)) (w : World) (e : Ending) (w' : World) : Prop := ∃ (A' : Option Addr) (n' c' : Nat) (s : Spl) (L : List Spl), e = .returned (.tuple #[.agg #[.slice A' n' c', .int .i64 s.cross, .int .i64 s.dir, .int .i64 s.kind], .nilIface]) ∧ RdB w' A' n' s.side ∧ n' ≤ c' ∧ IsAll E l 12 L ∧ Opt L 12 s ∧ Below w.heap.size w w'

set_option maxHeartbeats 4000000 in
set_option maxRecDepth 100000 in
theorem cutBest_any (A B : Option Addr) (n m c d : Nat) (l E : List (Int × Int)) (w : World) (h : RdP w A n l) (hE : RdP w B m E) (hG : Good l E) (hn : n ≤ 4096) (hm : m ≤ 16384) :
    Calls Tryz.prog 82 #[.slice A n c, .slice B m d] w (BestPost E l w) := by
  have HA := Lib.hid (show ∀ V, Below w.heap.size w V → Calls Tryz.prog 91 #[.slice A n c, .slice B m d] V (AllPost E l V) from fun V hV => cutAll_any A B n m c d l E V (h.below hV) (hE.below hV) hG hn hm)
  have hsn := (show l.length = n from h.1)
  have HSN := Lib.hid hsn
  have HG2 := Lib.hid hG.1
  clear hsn h hE hG
  go_enter Tryz.func82, Tryz.ntmps82
  go_wp2_with fail
  (refine calls_named ?_; intro w1 hw1)
  have hb1 : Below w.heap.size w w1 := by rw [hw1]; exact bELt
  have hR1 : Blk w1 w.heap.size 162 #[.slice none 0 0, .int .i64 0, .int .i64 0, .int .i64 0] := by rw [hw1]; exact bLNt
  clear hw1
  with_reducible refine (HA.out _ hb1).mono ?_
  rintro e w2 ⟨A2, c2, L, rfl, hS, hall, hc12, hcm, hb⟩
  have hR2 := hR1.below hb hR1.lt
  have hb2 : Below w.heap.size w w2 := Bel.step hb1 hb
  obtain ⟨b, o, A3, n3, c3, s0, rfl, hs0, x0, x1, x2, x3, hr3, hnc3⟩ := hS.at_ (i := 0) (by omega)
  have HS := Lib.hid hS
  have HT := Lib.hid (hS.cut1)
  have HALL := Lib.hid hall
  have HOPT := Lib.hid (Opt.one hs0)
  have HR3 := Lib.hid hr3
  have hsl : ∀ W, (Instr.slice 187 (.slice (some ⟨b, o, none⟩) 12 c2) (some (.int .i64 1)) none none).run Tryz.prog W = .ok (.slice (some ⟨b, o + 4, none⟩) 11 (c2 - 1)) W := fun W => by
    have := run_cut_l (P := Tryz.prog) 187 162 4 Tryz.underlying187 (by kernel_rfl) (by kernel_rfl) (some ⟨b, o, none⟩) 12 c2 1 11 (by omega) (by omega) .i64 1 rfl W
    rw [this]
    unfold cutA
    rw [if_neg (by omega)]
    simp [Addr.add]
  have HR2 := Lib.hid hR2
  have hlt2 := hR2.lt
  rw [show o + 0 * 4 = o by omega] at x0 x1 x2 x3
  clear hS hall hs0 hr3 hR1 hR2 hb hb1 HA
  go_wp2_with fail
  (refine wp_named ?_; intro w4 hw4)
  have hB4 : Blk w4 w2.heap.size 162 #[.slice A3 n3 c3, .int .i64 s0.cross, .int .i64 s0.dir, .int .i64 s0.kind] := by rw [hw4]; exact bLNt
  have hb4 : Below w2.heap.size w2 w4 := by rw [hw4]; exact bELt
  clear hw4 x0 x1 x2 x3
  go_loopw [27] (fun i W => ∃ (k : Nat) (A' : Option Addr) (n' c' : Nat) (s : Spl), k ≤ 11 ∧ i = .int .i64 k ∧ Blk W w2.heap.size 162 #[.slice A' n' c', .int .i64 s.cross, .int .i64 s.dir, .int .i64 s.kind] ∧ RdB w2 A' n' s.side ∧ n' ≤ c' ∧ Opt L (k + 1) s ∧ Below w2.heap.size w2 W) (fun i _ => 11 - (intOf i).toNat)
  case atStart => exact ⟨0, A3, n3, c3, s0, by omega, rfl, hB4, HR3.out, hnc3, HOPT.out, hb4⟩
  case round =>
    clear hB4 hb4
    obtain ⟨k, A', n', c', s, hk, rfl, hB, hr, hnc, hopt, hbl⟩ := hrel
    have HR := Lib.hid hr
    have HO := Lib.hid hopt
    have hz := hbl.size
    have hltB := hB.lt
    obtain ⟨q0, q1, q2, q3⟩ := hB.four
    have HN' := Lib.hid (show n' = n from by
      obtain ⟨a, ha, hla, _⟩ := hopt
      rw [← hr.1, ((HALL.out.2 a s hla).sep HG2.out).len]; exact HSN.out)
    by_cases hlt : k < 11
    · obtain ⟨b', o', A5, n5, c5, s5, e, hs5, y0, y1, y2, y3, hr5, hnc5⟩ := HT.out.at_ hlt
      cases e
      have hL5 : L[k + 1]? = some s5 := by rw [List.getElem?_drop] at hs5; rw [← hs5, Nat.add_comm]
      have HL5 := Lib.hid hL5
      have hlen5 : s5.side.length = n := by
        have := ((HALL.out.2 _ s5 hL5).sep HG2.out).len
        rw [this]; exact HSN.out
      have hn5 : n5 = n := by rw [← hr5.1]; exact hlen5
      have HR5 := Lib.hid hr5
      have v0 := Below.cellOf hbl (Nat.le_refl _) y0
      have v1 := Below.cellOf hbl (Nat.le_refl _) y1
      have v2 := Below.cellOf hbl (Nat.le_refl _) y2
      have v3 := Below.cellOf hbl (Nat.le_refl _) y3
      have i1 : (0 : Int) ≤ (k : Int) := by omega
      have i2 : (k : Int) < 11 := by omega
      clear y0 y1 y2 y3 hs5 hL5 hlen5 hr5 hr hopt
      have HN5 := Lib.hid hn5
      clear hn5
      by_cases g1 : s5.cross > s.cross
      · go_wp2_with fail
        go_roundw
        case rel => exact ⟨k + 1, A', n', c', s, by omega, by go_num, bLKt, HR.out, hnc, HO.out.keep HL5.out (.inl g1), bELt⟩
        case measure => simp [intOf]; omega
      by_cases g2 : s5.cross < s.cross
      · have d2 : decide (s5.cross < s.cross) = true := decide_eq_true g2
        go_wp2_with fail
        (refine wp_named ?_; intro w7 hw7)
        have hB7 : Blk w7 w2.heap.size 162 #[.slice A' n' c', .int .i64 s.cross, .int .i64 s.dir, .int .i64 s.kind] := by rw [hw7]; exact hB.alloc _
        have hS7 : Blk w7 wr.heap.size 162 #[.slice A5 n5 c5, .int .i64 s5.cross, .int .i64 s5.dir, .int .i64 s5.kind] := by rw [hw7]; exact Blk.new _ _ _
        have hb7 : Below w2.heap.size w2 w7 := by rw [hw7]; exact hbl.alloc hz _
        clear hw7 v0 v1 v2 v3 q0 q1 q2 q3
        obtain ⟨q0, q1, q2, q3⟩ := hB7.four
        obtain ⟨v0, v1, v2, v3⟩ := hS7.four
        have f0 := hB7.frozen 0
        have f1 := hB7.frozen 1
        have f2 := hB7.frozen 2
        have f3 := hB7.frozen 3
        go_quiet (fail)
        go_wp2_with fail
        have HB8 := Lib.hid (show Blk (((((w7.drewN nq).setCell ⟨w2.heap.size, 0, none⟩ (.slice A5 n5 c5)).setCell ⟨w2.heap.size, 1, none⟩ (.int .i64 s5.cross)).setCell ⟨w2.heap.size, 2, none⟩ (.int .i64 s5.dir)).setCell ⟨w2.heap.size, 3, none⟩ (.int .i64 s5.kind)) w2.heap.size 162 #[.slice A5 n5 c5, .int .i64 s5.cross, .int .i64 s5.dir, .int .i64 s5.kind] from ((((hB7.drewN nq).set_ 0 _).set_ 1 _).set_ 2 _).set_ 3 _)
        have hb8 : Below w2.heap.size w2 (((((w7.drewN nq).setCell ⟨w2.heap.size, 0, none⟩ (.slice A5 n5 c5)).setCell ⟨w2.heap.size, 1, none⟩ (.int .i64 s5.cross)).setCell ⟨w2.heap.size, 2, none⟩ (.int .i64 s5.dir)).setCell ⟨w2.heap.size, 3, none⟩ (.int .i64 s5.kind)) := ((((below_drewN hb7 nq).setCell (Nat.le_refl _) _).setCell (Nat.le_refl _) _).setCell (Nat.le_refl _) _).setCell (Nat.le_refl _) _
        go_roundw
        case rel => exact ⟨k + 1, A5, n5, c5, s5, by omega, by go_num, HB8.out, HR5.out, hnc5, HO.out.turn HL5.out (.inl g2), hb8⟩
        case measure => simp [intOf]; omega
      · have heq : s5.cross = s.cross := by omega
        have HEQ := Lib.hid heq
        have HF5 := Lib.hid (show ∀ V, Below w2.heap.size w2 V → ∀ q, Calls Tryz.prog 92 #[.slice A5 n5 c5] (V.drewN q) fun e w' => e = .returned (.int .i64 (offB s5.side)) ∧ V.drewN q = w' from fun V hV q => off_any A5 n5 c5 s5.side _ (HR5.out.below (below_drewN hV q)) (by have := HN5.out; omega))
        have HF' := Lib.hid (show ∀ V, Below w2.heap.size w2 V → ∀ q, Calls Tryz.prog 92 #[.slice A' n' c'] (V.drewN q) fun e w' => e = .returned (.int .i64 (offB s.side)) ∧ V.drewN q = w' from fun V hV q => off_any A' n' c' s.side _ (HR.out.below (below_drewN hV q)) (by have := HN'.out; omega))
        have d2 : decide (s5.cross < s.cross) = false := decide_eq_false g2
        clear heq
        by_cases g3 : offB s5.side < offB s.side
        · have G3 := Lib.hid g3
          generalize hx5 : offB s5.side = x5 at HF5 g3
          generalize hx' : offB s.side = x' at HF' g3
          have HX5 := Lib.hid hx5
          have HX' := Lib.hid hx'
          clear hx5 hx'
          go_wp2_with fail
          (refine wp_named ?_; intro w7 hw7)
          have hB7 : Blk w7 w2.heap.size 162 #[.slice A' n' c', .int .i64 s.cross, .int .i64 s.dir, .int .i64 s.kind] := by rw [hw7]; exact hB.alloc _
          have hS7 : Blk w7 wr.heap.size 162 #[.slice A5 n5 c5, .int .i64 s5.cross, .int .i64 s5.dir, .int .i64 s5.kind] := by rw [hw7]; exact Blk.new _ _ _
          have hb7 : Below w2.heap.size w2 w7 := by rw [hw7]; exact hbl.alloc hz _
          clear hw7 v0 v1 v2 v3 q0 q1 q2 q3
          obtain ⟨q0, q1, q2, q3⟩ := hB7.four
          obtain ⟨v0, v1, v2, v3⟩ := hS7.four
          have f0 := hB7.frozen 0
          have f1 := hB7.frozen 1
          have f2 := hB7.frozen 2
          have f3 := hB7.frozen 3
          have HG5 := Lib.hid (HF5.out w7 hb7)
          have HG' := Lib.hid (HF'.out w7 hb7)
          go_quiet ((go_at_call 92; first | (with_reducible exact quiet_left (HG5.out _)) | (with_reducible exact quiet_left (HG'.out _))))
          go_wp2_with fail
          have HB8 := Lib.hid (show Blk (((((w7.drewN nq).setCell ⟨w2.heap.size, 0, none⟩ (.slice A5 n5 c5)).setCell ⟨w2.heap.size, 1, none⟩ (.int .i64 s5.cross)).setCell ⟨w2.heap.size, 2, none⟩ (.int .i64 s5.dir)).setCell ⟨w2.heap.size, 3, none⟩ (.int .i64 s5.kind)) w2.heap.size 162 #[.slice A5 n5 c5, .int .i64 s5.cross, .int .i64 s5.dir, .int .i64 s5.kind] from ((((hB7.drewN nq).set_ 0 _).set_ 1 _).set_ 2 _).set_ 3 _)
          have hb8 : Below w2.heap.size w2 (((((w7.drewN nq).setCell ⟨w2.heap.size, 0, none⟩ (.slice A5 n5 c5)).setCell ⟨w2.heap.size, 1, none⟩ (.int .i64 s5.cross)).setCell ⟨w2.heap.size, 2, none⟩ (.int .i64 s5.dir)).setCell ⟨w2.heap.size, 3, none⟩ (.int .i64 s5.kind)) := ((((below_drewN hb7 nq).setCell (Nat.le_refl _) _).setCell (Nat.le_refl _) _).setCell (Nat.le_refl _) _).setCell (Nat.le_refl _) _
          go_roundw
          case rel => exact ⟨k + 1, A5, n5, c5, s5, by omega, by go_num, HB8.out, HR5.out, hnc5, HO.out.turn HL5.out (.inr ⟨HEQ.out, G3.out⟩), hb8⟩
          case measure => simp [intOf]; omega
        · have G3 := Lib.hid g3
          generalize hx5 : offB s5.side = x5 at HF5 g3
          generalize hx' : offB s.side = x' at HF' g3
          have HX5 := Lib.hid hx5
          have HX' := Lib.hid hx'
          clear hx5 hx'
          go_wp2_with fail
          (refine wp_named ?_; intro w7 hw7)
          have hB7 : Blk w7 w2.heap.size 162 #[.slice A' n' c', .int .i64 s.cross, .int .i64 s.dir, .int .i64 s.kind] := by rw [hw7]; exact hB.alloc _
          have hS7 : Blk w7 wr.heap.size 162 #[.slice A5 n5 c5, .int .i64 s5.cross, .int .i64 s5.dir, .int .i64 s5.kind] := by rw [hw7]; exact Blk.new _ _ _
          have hb7 : Below w2.heap.size w2 w7 := by rw [hw7]; exact hbl.alloc hz _
          clear hw7 v0 v1 v2 v3 q0 q1 q2 q3
          obtain ⟨q0, q1, q2, q3⟩ := hB7.four
          obtain ⟨v0, v1, v2, v3⟩ := hS7.four
          have f0 := hB7.frozen 0
          have f1 := hB7.frozen 1
          have f2 := hB7.frozen 2
          have f3 := hB7.frozen 3
          have HG5 := Lib.hid (HF5.out w7 hb7)
          have HG' := Lib.hid (HF'.out w7 hb7)
          go_quiet ((go_at_call 92; first | (with_reducible exact quiet_left (HG5.out _)) | (with_reducible exact quiet_left (HG'.out _))))
          go_wp2_with fail
          go_roundw
          case rel => exact ⟨k + 1, A', n', c', s, by omega, by go_num, hB7.drewN _, HR.out, hnc, HO.out.keep HL5.out (.inr ⟨HEQ.out, by have := G3.out; omega⟩), below_drewN hb7 _⟩
          case measure => simp [intOf]; omega
    · obtain rfl : k = 11 := by omega
      have hR9 := HR2.out.below hbl hlt2
      have hne : w.heap.size ≠ w2.heap.size := by omega
      obtain ⟨r0, r1, r2, r3⟩ := hR9.four
      have f0 := hR9.frozen 0
      have f1 := hR9.frozen 1
      have f2 := hR9.frozen 2
      have f3 := hR9.frozen 3
      go_wp2_with fail
      obtain ⟨w9, hw9⟩ : ∃ w9, w9 = (((wr.setCell ⟨w.heap.size, 0, none⟩ (.slice A' n' c')).setCell ⟨w.heap.size, 1, none⟩ (.int .i64 s.cross)).setCell ⟨w.heap.size, 2, none⟩ (.int .i64 s.dir)).setCell ⟨w.heap.size, 3, none⟩ (.int .i64 s.kind) := ⟨_, rfl⟩
      rw [← hw9]
      have hR10 : Blk w9 w.heap.size 162 #[.slice A' n' c', .int .i64 s.cross, .int .i64 s.dir, .int .i64 s.kind] := by rw [hw9]; exact (((hR9.set_ 0 _).set_ 1 _).set_ 2 _).set_ 3 _
      have hbw : Below w.heap.size w wr := Bel.step hb2 hbl
      have hb9 : Below w.heap.size w w9 := by rw [hw9]; exact (((hbw.setCell (Nat.le_refl _) _).setCell (Nat.le_refl _) _).setCell (Nat.le_refl _) _).setCell (Nat.le_refl _) _
      have n1 : blkOf A' ≠ some w.heap.size := RdB.notS HR2.out (by have := HN'.out; have := HSN.out; have := HG2.out; omega) HR.out
      have hr9 : RdB w9 A' n' s.side := by rw [hw9]; exact ((((HR.out.below hbl).far _ n1).far _ n1).far _ n1).far _ n1
      clear hw9 r0 r1 r2 r3
      obtain ⟨r0, r1, r2, r3⟩ := hR10.four
      refine bodyPost_ret (v := .tuple #[.agg #[.slice A' n' c', .int .i64 s.cross, .int .i64 s.dir, .int .i64 s.kind], .nilIface]) (by simp [results, Tryz.results82, go_sem, r0, r1, r2, r3]) rfl ?_
      exact ⟨A', n', c', s, L, rfl, hr9, hnc, HALL.out, HO.out, hb9⟩
end Go.Proofs.YtpffhoefmcpniaaGreatDoor
