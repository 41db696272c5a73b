/- For every input NestPairs returns true, and its arguments read afterwards as before; package errors' variable errorType tied to the program's text. No condition. -/
import Derived.Test.YtpffhoefmcpniaaGreatDoorH1
import Derived.Test.YtpffhoefmcpniaaGreatDoorH41
import Derived.Test.YtpffhoefmcpniaaGreatDoorH43
/- For every input NestPairs returns true, and its arguments read afterwards as before; package errors' variable errorType tied to the program's text. No condition. -/
namespace Go.Proofs.YtpffhoefmcpniaaGreatDoor
open Go.ChangeShapes Go.WideShapes Go.ChangeAt Go.RowKit Go.Deep
namespace NestPairsDone

set_option maxRecDepth 100000 in
theorem lifted (os : Os) (started : os.Started) (H : Type) (enc : TypeId × Value → H) :
    ReturnsInHanded {} Tryz.checked os 5 .any (fun w args => (Rows.nestPairsSpec.pre enc Tryz.prog Tryz.f5 [] false w args ∧ laidMetH Tryz.prog [("errors.errorType", Rows.laid_errors_errorType)] w) ∧ sizedMet enc Tryz.prog Tryz.f5 (OpenSpec.ofChange Rows.nestPairsSpec) false w args)
      (Rows.nestPairsSpec.post enc Tryz.prog Tryz.f5 false true false false) := by
  refine returnsInHanded_of_change_and (C := Tryz.checked) (X := fun w _ => laidMetH Tryz.prog [("errors.errorType", Rows.laid_errors_errorType)] w) (fun _ _ _ hh h => h.of_heap hh) own_ started (by kernel_rfl) Tryz.func5
    (ChangeSpec.witness_at (enc := enc) (C := Tryz.checked) (os := os) (X := fun w _ => laidMetH Tryz.prog [("errors.errorType", Rows.laid_errors_errorType)] w) false (laidWorld os) #[.slice none 0 0, .slice none 0 0] 8 rfl (by kernel_rfl) (by kernel_rfl) (by kernel_rfl) (by kernel_rfl) (by kernel_rfl) (laidWorld_met os _)) ?_
  intro W base args ds gs before hval0 hW _ hsz0 hL _
  have hsz : (DataW.weightsEach Tryz.prog (Tryz.f5.params.toList ++ Rows.nestPairsSpec.plain.varTypes Tryz.prog) (ds ++ gs)).all (· ≤ reachBytes) = true := hsz0
  clear hsz0
  have hval : ∀ (j : Nat) t v, Tryz.f5.params[j]? = some t → args[j]? = some v → Value.okWide Tryz.prog W .any base t v := hval0
  have hW' := hW
  obtain ⟨p, q, hA0, hV, rfl, hfz, hnd⟩ := hW
  have hA : DataW.TrodAll enc Tryz.prog W 0 (fun _ => true) true Tryz.f5.params.toList args.toList ds p := hA0
  rw [Tryz.params5] at hA hval hsz
  obtain ⟨v0, vs0, d0, ds0, p0, q0, hargs, rfl, rfl, h0, r0⟩ := trodAll_cons hA
  obtain ⟨v1, vs1, d1, ds1, p1, q1, rfl, rfl, rfl, h1, r1⟩ := trodAll_cons r0
  obtain ⟨rfl, rfl, rfl⟩ := trodAll_nil r1
  obtain rfl : args = #[v0, v1] := by cases args; simp_all
  obtain ⟨rfl, rfl⟩ := trodVars_none hV
  obtain ⟨a0, len0, cap0, rfl⟩ := okWide_slice Tryz.underlying58 (hval 0 58 v0 rfl rfl)
  have k0 := h0
  have lt0 : ∀ x ∈ p0, x.block < W.heap.size := by obtain ⟨m, hm⟩ := k0; exact DataW.trod_lt m _ _ _ hm
  obtain ⟨l0, hl0, hb0, hwf0⟩ : ∃ l : List Int, RdK .i16 W a0 len0 l ∧ len0 ≤ 4000000000000000000 ∧ ∀ a ∈ l, (Lit.int .i16 a).wf = true := by
    obtain ⟨fuel, hf⟩ := h0
    obtain ⟨l, hl, _, _, hs, hwf⟩ := open_intsK Tryz.underlying58 Tryz.underlying62 (by kernel_rfl) hf
    refine ⟨l, hl, ?_, hwf⟩
    rcases hs with h | ⟨el, sp, hx, hel⟩
    · omega
    · have := sized_slice hsz (j := 0) (t := 58) (e := 62) (elems := el) (spare := sp) rfl (by simpa using hx) Tryz.underlying58
      rw [show Tryz.prog.bytesOf 62 = 2 by kernel_rfl] at this
      simp only [reachBytes] at this
      omega
  obtain ⟨a1, len1, cap1, rfl⟩ := okWide_slice Tryz.underlying58 (hval 1 58 v1 rfl rfl)
  have k1 := h1
  have lt1 : ∀ x ∈ p1, x.block < W.heap.size := by obtain ⟨m, hm⟩ := k1; exact DataW.trod_lt m _ _ _ hm
  obtain ⟨l1, hl1, hb1, hwf1⟩ : ∃ l : List Int, RdK .i16 W a1 len1 l ∧ len1 ≤ 4000000000000000000 ∧ ∀ a ∈ l, (Lit.int .i16 a).wf = true := by
    obtain ⟨fuel, hf⟩ := h1
    obtain ⟨l, hl, _, _, hs, hwf⟩ := open_intsK Tryz.underlying58 Tryz.underlying62 (by kernel_rfl) hf
    refine ⟨l, hl, ?_, hwf⟩
    rcases hs with h | ⟨el, sp, hx, hel⟩
    · omega
    · have := sized_slice hsz (j := 1) (t := 58) (e := 62) (elems := el) (spare := sp) rfl (by simpa using hx) Tryz.underlying58
      rw [show Tryz.prog.bytesOf 62 = 2 by kernel_rfl] at this
      simp only [reachBytes] at this
      omega
  clear hA0 hval0
  have hg := handle_of_laid hL
  refine (nestPairs_walk a0 len0 cap0 l0 a1 len1 cap1 l1 W hl0 hb0 (fun a ha => bounds_i16 (hwf0 a ha)) hl1 hb1 (fun a ha => bounds_i16 (hwf1 a ha)) hg).mono fun e W' ⟨he, bel⟩ => ?_
  subst he
  exact ⟨_, rfl, _, _, _, [], _, [], hW', trodAll_mk1 (shut_bool Tryz.underlying4 _), (trodAll_cons_mk (Below.trod laidOut_ (by kernel_rfl) (of_decide_eq_true (by kernel_rfl)) k0 bel lt0) (trodAll_cons_mk (Below.trod laidOut_ (by kernel_rfl) (of_decide_eq_true (by kernel_rfl)) k1 bel lt1) trodAll_mk0)), rfl, bel.frame _, fun h => by cases h⟩

theorem jf0 : Rows.nestPairsRow.wf (OpenSpec.ofChange Rows.nestPairsSpec) = true := by kernel_rfl
theorem jf1 : laidOutB Tryz.prog = true := by kernel_rfl
theorem jf2 : mapsRowed Tryz.prog = true := by kernel_rfl
theorem jf3 : Tryz.f5.params.all (Tryz.prog.readableRec ·) = true := by kernel_rfl
theorem jf4 : namedTie Tryz.prog Rows.nestPairsRow.named Rows.nestPairsSpec.vars = true := by kernel_rfl
theorem jf5 : (Rows.nestPairsRow.stops == []) = true := by kernel_rfl
theorem jf6 : (Tryz.prog.stops == []) = true := by kernel_rfl
theorem jf7 : (Rows.nestPairsRow.knobs == []) = true := by kernel_rfl
theorem jf8 : (Tryz.prog.stopKnobs == []) = true := by kernel_rfl
theorem jf9 : (Rows.nestPairsRow.inPlace == Tryz.prog.inPlace 5) = true := by kernel_rfl
theorem jf10 : (Rows.nestPairsRow.unfollowed == Tryz.prog.unfollowed 5) = true := by kernel_rfl
theorem jf11 : (Rows.nestPairsRow.recurses == Tryz.prog.recurses 5) = true := by kernel_rfl
theorem jf12 : (Rows.nestPairsRow.named == Tryz.prog.varsNamed 5) = true := by kernel_rfl
theorem jf13 : (Rows.nestPairsRow.maps == (Tryz.f5.params.toList ++ Rows.nestPairsSpec.plain.varTypes Tryz.prog).any (Tryz.prog.mapsRec ·)) = true := by kernel_rfl
theorem jf14 : (Rows.nestPairsRow.ifaces == (Tryz.f5.params.toList ++ Rows.nestPairsSpec.plain.varTypes Tryz.prog).any (Tryz.prog.ifacesRec ·)) = true := by kernel_rfl
theorem jf15 : (Rows.nestPairsRow.mapsOut == Tryz.prog.mapsAmong Tryz.f5.resultTypes.toList) = true := by kernel_rfl
theorem jf16 : (Rows.nestPairsRow.loops == (Tryz.f5.params.toList ++ Rows.nestPairsSpec.plain.varTypes Tryz.prog).any (Tryz.prog.loopsFrom ·)) = true := by kernel_rfl
theorem jf17 : (Rows.nestPairsRow.wideKeys == (Tryz.f5.params.toList ++ Rows.nestPairsSpec.plain.varTypes Tryz.prog ++ Tryz.f5.resultTypes.toList).any (Tryz.prog.wideKeysFrom ·)) = true := by kernel_rfl
theorem jf18 : Rows.nestPairsSpec.vars.all (Tryz.prog.varReadable ·) = true := by kernel_rfl
theorem jf19 : Tryz.f5.resultTypes.all (fun t => Tryz.prog.readableRec t && decide (t < Tryz.prog.types.size)) = true := by kernel_rfl
theorem jf20 : (Rows.nestPairsRow.ifacesOut == Tryz.f5.resultTypes.toList.any (Tryz.prog.ifacesRec ·)) = true := by kernel_rfl
theorem jf21 : (Rows.nestPairsRow.loopsOut == Tryz.f5.resultTypes.toList.any (Tryz.prog.loopsFrom ·)) = true := by kernel_rfl
theorem jf22 : (Rows.nestPairsRow.plainKeys == Tryz.prog.plainKeys) = true := by kernel_rfl
theorem jf23 : Rows.nestPairsRow.shortTexts.isNone = true := by kernel_rfl
theorem jf24 : Tryz.prog.stopsHeard = true := by kernel_rfl
theorem jf25 : Tryz.prog.mayEnter = true := by kernel_rfl
theorem jf26 : (Rows.nestPairsRow.lifted == Tryz.prog.liftsFinal) = true := by kernel_rfl
theorem jf27 : (Tryz.prog.make == some Rows.nestPairsRow.make) = true := by kernel_rfl
theorem jf28 : (Rows.nestPairsRow.kinds == (if Rows.nestPairsRow.domain.isEmpty then [] else Tryz.f5.params.toList.map fun t => match Tryz.prog.underlying t with | some (.int k) => some k | _ => none)) = true := by kernel_rfl
theorem jf29 : (Rows.nestPairsRow.pinned == Rows.nestPairsRow.pinnedBy) = true := by kernel_rfl
theorem jf30 : (Rows.nestPairsRow.veiled == (Tryz.f5.params.toList ++ Rows.nestPairsSpec.plain.varTypes Tryz.prog ++ Tryz.f5.resultTypes.toList).any (Tryz.prog.veiledRec ·)) = true := by kernel_rfl
theorem jf31 : Rows.nestPairsRow.veiledFits Tryz.prog Tryz.f5.params.toList (Tryz.f5.params.toList ++ Rows.nestPairsSpec.plain.varTypes Tryz.prog ++ Tryz.f5.resultTypes.toList) = true := by kernel_rfl
set_option maxRecDepth 100000 in
theorem closed : joinedFacts Tryz.prog 5 Tryz.f5 Rows.nestPairsSpec Rows.nestPairsRow = true := by
  simp only [joinedFacts, Bool.and_eq_true]
  exact ⟨⟨⟨⟨⟨⟨⟨⟨⟨⟨⟨⟨⟨⟨⟨⟨⟨⟨⟨⟨⟨⟨⟨⟨⟨⟨⟨⟨⟨⟨⟨jf0, jf1⟩, jf2⟩, jf3⟩, jf4⟩, jf5⟩, jf6⟩, jf7⟩, jf8⟩, jf9⟩, jf10⟩, jf11⟩, jf12⟩, jf13⟩, jf14⟩, jf15⟩, jf16⟩, jf17⟩, jf18⟩, jf19⟩, jf20⟩, jf21⟩, jf22⟩, jf23⟩, jf24⟩, jf25⟩, jf26⟩, jf27⟩, jf28⟩, jf29⟩, jf30⟩, jf31⟩
theorem named : Tryz.prog.funcNamed "roundsman/roundsmanlaw14.NestPairs" = some 5 := by kernel_rfl
theorem inst : Tryz.f5.isInstance Tryz.prog Rows.nestPairsRow.origin Rows.nestPairsRow.targs := of_decide_eq_true (by kernel_rfl)
theorem wrap : Tryz.f5.isWrapper Tryz.prog Rows.nestPairsRow.wrapper Rows.nestPairsRow.mainSum := by unfold Func.isWrapper; rw [if_neg (of_decide_eq_false (by kernel_rfl))]; exact ⟨rfl, rfl⟩
theorem over : Rows.NestPairsSaid :=
  OpenClaim.holds_of_wide 5 Tryz.f5 rfl rfl rfl rfl rfl rfl rfl ⟨rfl, rfl, rfl, rfl, rfl⟩ rfl rfl rfl rfl rfl named Tryz.func5 closed inst wrap
    (fun os started H enc _ => lifted os started H enc)

theorem byText : Rows.nestPairsRow.wfByText (OpenSpec.ofChange Rows.nestPairsSpec) = true := by kernel_rfl
theorem mainIs : Tryz.prog.mainIs = some (((true, "2b1f69522e020e816194f642fef3ee242ceb4b4957158c9f90373acd632430ef") : Bool × String).1, ((true, "2b1f69522e020e816194f642fef3ee242ceb4b4957158c9f90373acd632430ef") : Bool × String).2.toList) := by kernel_rfl
theorem looksL : true = Tryz.prog.looks [] := by kernel_rfl
theorem goes : false = Rows.nestPairsRow.goesBy Tryz.prog := by kernel_rfl
theorem proved : Rows.NestPairsCardSaid :=
  Claim7.holds_tied_plain_at .later [] [.handle] true (true, "2b1f69522e020e816194f642fef3ee242ceb4b4957158c9f90373acd632430ef") true
    over (fun _ h => by cases h) byText (fun _ h => by cases h) nestPairs_row_tie rfl ⟨rfl, rfl⟩ mainIs rfl
    (fun f fn hf hfn => by
      obtain rfl : f = 5 := Option.some.inj (named.symm.trans hf) |>.symm
      obtain rfl : fn = Tryz.f5 := (Option.some.inj (Tryz.func5.symm.trans hfn)).symm
      exact ⟨looksL, fun j t ht => by
        rw [Tryz.params5] at ht
        rcases j with _ | _ | j
        · obtain rfl : t = 58 := by simpa using ht.symm
          exact (show Tryz.prog.wantsStandIn 58 = false by kernel_rfl)
        · obtain rfl : t = 58 := by simpa using ht.symm
          exact (show Tryz.prog.wantsStandIn 58 = false by kernel_rfl)
        · simp at ht⟩)
    goes
#print axioms proved
end NestPairsDone
end Go.Proofs.YtpffhoefmcpniaaGreatDoor
