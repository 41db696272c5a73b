/- For every input CutFair returns true, and its arguments read afterwards as before. No condition. -/
import Derived.Test.YtjphjbchhhembaaDoorCu11
import Derived.Test.YtjphjbchhhembaaDoorOpen
import Derived.Test.YtjphjbchhhembaaDoorLaid
namespace Go.Proofs.YtjphjbchhhembaaDoor
open Go.ChangeShapes Go.WideShapes Go.ChangeAt Go.RowKit
namespace CutFairDone

set_option maxRecDepth 100000 in
theorem lifted (os : Os) (started : os.Started) (H : Type) (enc : TypeId × Value → H) :
    ReturnsInHanded {} Tryd.checked os 7 .any (fun w args => (Rows.cutFairSpec.pre enc Tryd.prog Tryd.f7 [] false w args ∧ laidMetH Tryd.prog [("errors.errorType", Rows.laid_errors_errorType)] w) ∧ sizedMet enc Tryd.prog Tryd.f7 (OpenSpec.ofChange Rows.cutFairSpec) false w args)
      (Rows.cutFairSpec.post enc Tryd.prog Tryd.f7 false true false false) := by
  refine returnsInHanded_of_change_and (C := Tryd.checked) (X := fun w _ => laidMetH Tryd.prog [("errors.errorType", Rows.laid_errors_errorType)] w) (fun _ _ _ hh h => h.of_heap hh) own_ started (by kernel_rfl) Tryd.func7
    (ChangeSpec.witness_at (enc := enc) (C := Tryd.checked) (os := os) (X := fun w _ => laidMetH Tryd.prog [("errors.errorType", Rows.laid_errors_errorType)] w) false (laidWorld os) #[.slice none 0 0, .slice none 0 0, .slice none 0 0] 8 rfl (by kernel_rfl) (by kernel_rfl) (by kernel_rfl) (by kernel_rfl) (by kernel_rfl) (laidWorld_met os _)) ?_
  intro W base args ds gs before hval0 hW _ hsz0 hL _
  have hsz : (DataW.weightsEach Tryd.prog (Tryd.f7.params.toList ++ Rows.cutFairSpec.plain.varTypes Tryd.prog) (ds ++ gs)).all (· ≤ reachBytes) = true := hsz0
  clear hsz0
  have hval : ∀ (j : Nat) t v, Tryd.f7.params[j]? = some t → args[j]? = some v → Value.okWide Tryd.prog W .any base t v := hval0
  have hW' := hW
  obtain ⟨p, q, hA0, hV, rfl, hfz, hnd⟩ := hW
  have hA : DataW.TrodAll enc Tryd.prog W 0 (fun _ => true) true Tryd.f7.params.toList args.toList ds p := hA0
  rw [Tryd.params7] at hA hval hsz
  obtain ⟨v0, vs0, d0, ds0, p0, q0, hargs, rfl, rfl, h0, r0⟩ := trodAll_cons hA
  obtain ⟨v1, vs1, d1, ds1, p1, q1, rfl, rfl, rfl, h1, r1⟩ := trodAll_cons r0
  obtain ⟨v2, vs2, d2, ds2, p2, q2, rfl, rfl, rfl, h2, r2⟩ := trodAll_cons r1
  obtain ⟨rfl, rfl, rfl⟩ := trodAll_nil r2
  obtain rfl : args = #[v0, v1, v2] := by cases args; simp_all
  obtain ⟨rfl, rfl⟩ := trodVars_none hV
  obtain ⟨a0, len0, cap0, rfl⟩ := okWide_slice Tryd.underlying45 (hval 0 45 v0 rfl rfl)
  have k0 := h0
  have lt0 : ∀ x ∈ p0, x.block < W.heap.size := by obtain ⟨m, hm⟩ := k0; exact DataW.trod_lt m _ _ _ hm
  obtain ⟨l0, hl0, hb0⟩ : ∃ l : List (Int × Int), RdP W a0 len0 l ∧ len0 ≤ 4000000000000000000 := by
    obtain ⟨fuel, hf⟩ := h0
    obtain ⟨l, hl, _, _, hs⟩ := open_pairs Tryd.underlying45 Tryd.underlying62 Tryd.underlying3 (by kernel_rfl) (by kernel_rfl) hf
    refine ⟨l, hl, ?_⟩
    rcases hs with h | ⟨el, sp, hx, hel⟩
    · omega
    · have := sized_slice hsz (j := 0) (t := 45) (e := 62) (elems := el) (spare := sp) rfl (by simpa using hx) Tryd.underlying45
      rw [show Tryd.prog.bytesOf 62 = 16 by kernel_rfl] at this
      simp only [reachBytes] at this
      omega
  obtain ⟨a1, len1, cap1, rfl⟩ := okWide_slice Tryd.underlying45 (hval 1 45 v1 rfl rfl)
  have k1 := h1
  have lt1 : ∀ x ∈ p1, x.block < W.heap.size := by obtain ⟨m, hm⟩ := k1; exact DataW.trod_lt m _ _ _ hm
  obtain ⟨l1, hl1, hb1⟩ : ∃ l : List (Int × Int), RdP W a1 len1 l ∧ len1 ≤ 4000000000000000000 := by
    obtain ⟨fuel, hf⟩ := h1
    obtain ⟨l, hl, _, _, hs⟩ := open_pairs Tryd.underlying45 Tryd.underlying62 Tryd.underlying3 (by kernel_rfl) (by kernel_rfl) hf
    refine ⟨l, hl, ?_⟩
    rcases hs with h | ⟨el, sp, hx, hel⟩
    · omega
    · have := sized_slice hsz (j := 1) (t := 45) (e := 62) (elems := el) (spare := sp) rfl (by simpa using hx) Tryd.underlying45
      rw [show Tryd.prog.bytesOf 62 = 16 by kernel_rfl] at this
      simp only [reachBytes] at this
      omega
  obtain ⟨a2, len2, cap2, rfl⟩ := okWide_slice Tryd.underlying54 (hval 2 54 v2 rfl rfl)
  have k2 := h2
  have lt2 : ∀ x ∈ p2, x.block < W.heap.size := by obtain ⟨m, hm⟩ := k2; exact DataW.trod_lt m _ _ _ hm
  obtain ⟨l2, hl2, hb2⟩ : ∃ l : List Bool, RdB W a2 len2 l ∧ len2 ≤ 4000000000000000000 := by
    obtain ⟨fuel, hf⟩ := h2
    obtain ⟨l, hl, _, _, hs⟩ := open_bools Tryd.underlying54 Tryd.underlying4 (by kernel_rfl) hf
    refine ⟨l, hl, ?_⟩
    rcases hs with h | ⟨el, sp, hx, hel⟩
    · omega
    · have := sized_slice hsz (j := 2) (t := 54) (e := 4) (elems := el) (spare := sp) rfl (by simpa using hx) Tryd.underlying54
      rw [show Tryd.prog.bytesOf 4 = 1 by kernel_rfl] at this
      simp only [reachBytes] at this
      omega
  clear hA0 hval0
  have hg := handle_of_laid hL
  refine (cutFair_walk a0 a1 a2 len0 len1 len2 cap0 cap1 cap2 l0 l1 l2 W hl0 hl1 hl2 hg).mono fun e W' ⟨he, bel⟩ => ?_
  subst he
  exact ⟨_, rfl, _, _, _, [], _, [], hW', trodAll_mk1 (shut_bool Tryd.underlying4 _), (trodAll_cons_mk (Below.trod laidOut_ (by kernel_rfl) (of_decide_eq_true (by kernel_rfl)) k0 bel lt0) (trodAll_cons_mk (Below.trod laidOut_ (by kernel_rfl) (of_decide_eq_true (by kernel_rfl)) k1 bel lt1) (trodAll_cons_mk (Below.trod laidOut_ (by kernel_rfl) (of_decide_eq_true (by kernel_rfl)) k2 bel lt2) trodAll_mk0))), rfl, bel.frame _, fun h => by cases h⟩

theorem over : Rows.CutFairSaid :=
  OpenClaim.holds_of_wide 7 Tryd.f7 rfl rfl rfl rfl rfl rfl rfl ⟨rfl, rfl, rfl, rfl, rfl⟩ rfl rfl rfl rfl rfl (by kernel_rfl) Tryd.func7 (by kernel_rfl)
    (of_decide_eq_true (by kernel_rfl)) (by unfold Func.isWrapper; rw [if_neg (of_decide_eq_false (by kernel_rfl))]; exact ⟨rfl, rfl⟩)
    (fun os started H enc _ => lifted os started H enc)

theorem proved : Rows.CutFairCardSaid :=
  Claim7.holds_tied_plain_at .later [] [.handle] true (true, "66909cf7e8924b848229b69531981282c1c9bb7a9c28365820007cea268b30d3") true
    over (fun _ h => by cases h) (by kernel_rfl) (fun _ h => by cases h) cutFair_row_tie rfl ⟨rfl, rfl⟩ (by kernel_rfl) rfl
    (fun f fn hf hfn => by
      obtain rfl : f = 7 := Option.some.inj ((show Tryd.prog.funcNamed "roundsman/roundsmanlaw11.CutFair" = some 7 by kernel_rfl).symm.trans hf) |>.symm
      obtain rfl : fn = Tryd.f7 := (Option.some.inj (Tryd.func7.symm.trans hfn)).symm
      exact ⟨by kernel_rfl, fun j t ht => by
        rw [Tryd.params7] at ht
        rcases j with _ | _ | _ | j
        · obtain rfl : t = 45 := by simpa using ht.symm
          exact (show Tryd.prog.wantsStandIn 45 = false by kernel_rfl)
        · obtain rfl : t = 45 := by simpa using ht.symm
          exact (show Tryd.prog.wantsStandIn 45 = false by kernel_rfl)
        · obtain rfl : t = 54 := by simpa using ht.symm
          exact (show Tryd.prog.wantsStandIn 54 = false by kernel_rfl)
        · simp at ht⟩)
    (by kernel_rfl)
#print axioms proved
end CutFairDone
end Go.Proofs.YtjphjbchhhembaaDoor
