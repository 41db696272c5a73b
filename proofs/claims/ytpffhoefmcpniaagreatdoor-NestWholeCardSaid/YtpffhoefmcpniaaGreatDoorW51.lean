/- For every input NestWhole returns true, and its arguments read afterwards as before; package errors' variable errorType tied to the program's text. No condition. -/
import Derived.Test.YtpffhoefmcpniaaGreatDoorW1
import Derived.Test.YtpffhoefmcpniaaGreatDoorW49
import Derived.Test.YtpffhoefmcpniaaGreatDoorW50
/- For every input NestWhole returns true, and its arguments read afterwards as before; package errors' variable errorType tied to the program's text. No condition. -/
namespace Go.Proofs.YtpffhoefmcpniaaGreatDoor
open Go.ChangeShapes Go.WideShapes Go.ChangeAt Go.RowKit Go.Deep
namespace NestWholeDone

set_option maxRecDepth 100000 in
theorem lifted (os : Os) (started : os.Started) (H : Type) (enc : TypeId × Value → H) :
    ReturnsInHanded {} Tryz.checked os 7 .any (fun w args => (Rows.nestWholeSpec.pre enc Tryz.prog Tryz.f7 [] false w args ∧ laidMetH Tryz.prog [("errors.errorType", Rows.laid_errors_errorType)] w) ∧ sizedMet enc Tryz.prog Tryz.f7 (OpenSpec.ofChange Rows.nestWholeSpec) false w args)
      (Rows.nestWholeSpec.post enc Tryz.prog Tryz.f7 false true false false) := by
  refine returnsInHanded_of_change_and (C := Tryz.checked) (X := fun w _ => laidMetH Tryz.prog [("errors.errorType", Rows.laid_errors_errorType)] w) (fun _ _ _ hh h => h.of_heap hh) own_ started (by kernel_rfl) Tryz.func7
    (ChangeSpec.witness_at (enc := enc) (C := Tryz.checked) (os := os) (X := fun w _ => laidMetH Tryz.prog [("errors.errorType", Rows.laid_errors_errorType)] w) false (laidWorld os) #[.agg #[.slice none 0 0, .slice none 0 0, .slice none 0 0], .slice none 0 0] 8 rfl (by kernel_rfl) (by kernel_rfl) (by kernel_rfl) (by kernel_rfl) (by kernel_rfl) (laidWorld_met os _)) ?_
  intro W base args ds gs before hval0 hW _ hsz0 hL _
  have hsz : (DataW.weightsEach Tryz.prog (Tryz.f7.params.toList ++ Rows.nestWholeSpec.plain.varTypes Tryz.prog) (ds ++ gs)).all (· ≤ reachBytes) = true := hsz0
  clear hsz0
  have hval : ∀ (j : Nat) t v, Tryz.f7.params[j]? = some t → args[j]? = some v → Value.okWide Tryz.prog W .any base t v := hval0
  have hW' := hW
  obtain ⟨p, q, hA0, hV, rfl, hfz, hnd⟩ := hW
  have hA : DataW.TrodAll enc Tryz.prog W 0 (fun _ => true) true Tryz.f7.params.toList args.toList ds p := hA0
  rw [Tryz.params7] at hA hval hsz
  obtain ⟨v0, vs0, d0, ds0, p0, q0, hargs, rfl, rfl, h0, r0⟩ := trodAll_cons hA
  obtain ⟨v1, vs1, d1, ds1, p1, q1, rfl, rfl, rfl, h1, r1⟩ := trodAll_cons r0
  obtain ⟨rfl, rfl, rfl⟩ := trodAll_nil r1
  obtain rfl : args = #[v0, v1] := by cases args; simp_all
  obtain ⟨rfl, rfl⟩ := trodVars_none hV
  obtain ⟨cs0, rfl, _⟩ := okWide_struct Tryz.underlying26 (hval 0 26 v0 rfl rfl)
  have k0 := h0
  have lt0 : ∀ x ∈ p0, x.block < W.heap.size := by obtain ⟨m, hm⟩ := k0; exact DataW.trod_lt m _ _ _ hm
  obtain ⟨A, B, C, n, m, k, c, d, e, N, hcs0, hnet, hk⟩ : ∃ (A B C : Option Addr) (n m k c d e : Nat) (N : NetD), cs0 = #[.slice A n c, .slice B m d, .slice C k e] ∧ RdNet W A B C n m k N ∧ k ≤ 9223372036854775807 := by
    obtain ⟨fuel, hf⟩ := h0
    obtain ⟨A, B, C, n, m, k, c, d, e, N, e1, e2, e3⟩ := open_net hf
    exact ⟨A, B, C, n, m, k, c, d, e, N, Array.toList_inj.1 e1, e2, e3⟩
  subst hcs0
  obtain ⟨a1, len1, cap1, rfl⟩ := okWide_slice Tryz.underlying59 (hval 1 59 v1 rfl rfl)
  have k1 := h1
  have lt1 : ∀ x ∈ p1, x.block < W.heap.size := by obtain ⟨m, hm⟩ := k1; exact DataW.trod_lt m _ _ _ hm
  obtain ⟨l1, hl1, hb1, hwf1⟩ : ∃ l : List Int, RdI W a1 len1 l ∧ len1 ≤ 4000000000000000000 ∧ ∀ a ∈ l, (Lit.int .i64 a).wf = true := by
    obtain ⟨fuel, hf⟩ := h1
    obtain ⟨l, hl, _, _, hs, hwf⟩ := open_intsK Tryz.underlying59 Tryz.underlying2 (by kernel_rfl) hf
    refine ⟨l, hl, ?_, hwf⟩
    rcases hs with h | ⟨el, sp, hx, hel⟩
    · omega
    · have := sized_slice hsz (j := 1) (t := 59) (e := 2) (elems := el) (spare := sp) rfl (by simpa using hx) Tryz.underlying59
      rw [show Tryz.prog.bytesOf 2 = 8 by kernel_rfl] at this
      simp only [reachBytes] at this
      omega
  clear hA0 hval0
  have hg := handle_of_laid hL
  refine (nestWhole_walk A B C n m k c d e N a1 len1 cap1 l1 W hnet hk hl1 hb1 hg).mono fun e W' ⟨he, bel⟩ => ?_
  subst he
  exact ⟨_, rfl, _, _, _, [], _, [], hW', trodAll_mk1 (shut_bool Tryz.underlying4 _), (trodAll_cons_mk (Below.trod laidOut_ (by kernel_rfl) (of_decide_eq_true (by kernel_rfl)) k0 bel lt0) (trodAll_cons_mk (Below.trod laidOut_ (by kernel_rfl) (of_decide_eq_true (by kernel_rfl)) k1 bel lt1) trodAll_mk0)), rfl, bel.frame _, fun h => by cases h⟩

theorem jf0 : Rows.nestWholeRow.wf (OpenSpec.ofChange Rows.nestWholeSpec) = true := by kernel_rfl
theorem jf1 : laidOutB Tryz.prog = true := by kernel_rfl
theorem jf2 : mapsRowed Tryz.prog = true := by kernel_rfl
theorem jf3 : Tryz.f7.params.all (Tryz.prog.readableRec ·) = true := by kernel_rfl
theorem jf4 : namedTie Tryz.prog Rows.nestWholeRow.named Rows.nestWholeSpec.vars = true := by kernel_rfl
theorem jf5 : (Rows.nestWholeRow.stops == []) = true := by kernel_rfl
theorem jf6 : (Tryz.prog.stops == []) = true := by kernel_rfl
theorem jf7 : (Rows.nestWholeRow.knobs == []) = true := by kernel_rfl
theorem jf8 : (Tryz.prog.stopKnobs == []) = true := by kernel_rfl
theorem jf9 : (Rows.nestWholeRow.inPlace == Tryz.prog.inPlace 7) = true := by kernel_rfl
theorem jf10 : (Rows.nestWholeRow.unfollowed == Tryz.prog.unfollowed 7) = true := by kernel_rfl
theorem jf11 : (Rows.nestWholeRow.recurses == Tryz.prog.recurses 7) = true := by kernel_rfl
theorem jf12 : (Rows.nestWholeRow.named == Tryz.prog.varsNamed 7) = true := by kernel_rfl
theorem jf13 : (Rows.nestWholeRow.maps == (Tryz.f7.params.toList ++ Rows.nestWholeSpec.plain.varTypes Tryz.prog).any (Tryz.prog.mapsRec ·)) = true := by kernel_rfl
theorem jf14 : (Rows.nestWholeRow.ifaces == (Tryz.f7.params.toList ++ Rows.nestWholeSpec.plain.varTypes Tryz.prog).any (Tryz.prog.ifacesRec ·)) = true := by kernel_rfl
theorem jf15 : (Rows.nestWholeRow.mapsOut == Tryz.prog.mapsAmong Tryz.f7.resultTypes.toList) = true := by kernel_rfl
theorem jf16 : (Rows.nestWholeRow.loops == (Tryz.f7.params.toList ++ Rows.nestWholeSpec.plain.varTypes Tryz.prog).any (Tryz.prog.loopsFrom ·)) = true := by kernel_rfl
theorem jf17 : (Rows.nestWholeRow.wideKeys == (Tryz.f7.params.toList ++ Rows.nestWholeSpec.plain.varTypes Tryz.prog ++ Tryz.f7.resultTypes.toList).any (Tryz.prog.wideKeysFrom ·)) = true := by kernel_rfl
theorem jf18 : Rows.nestWholeSpec.vars.all (Tryz.prog.varReadable ·) = true := by kernel_rfl
theorem jf19 : Tryz.f7.resultTypes.all (fun t => Tryz.prog.readableRec t && decide (t < Tryz.prog.types.size)) = true := by kernel_rfl
theorem jf20 : (Rows.nestWholeRow.ifacesOut == Tryz.f7.resultTypes.toList.any (Tryz.prog.ifacesRec ·)) = true := by kernel_rfl
theorem jf21 : (Rows.nestWholeRow.loopsOut == Tryz.f7.resultTypes.toList.any (Tryz.prog.loopsFrom ·)) = true := by kernel_rfl
theorem jf22 : (Rows.nestWholeRow.plainKeys == Tryz.prog.plainKeys) = true := by kernel_rfl
theorem jf23 : Rows.nestWholeRow.shortTexts.isNone = true := by kernel_rfl
theorem jf24 : Tryz.prog.stopsHeard = true := by kernel_rfl
theorem jf25 : Tryz.prog.mayEnter = true := by kernel_rfl
theorem jf26 : (Rows.nestWholeRow.lifted == Tryz.prog.liftsFinal) = true := by kernel_rfl
theorem jf27 : (Tryz.prog.make == some Rows.nestWholeRow.make) = true := by kernel_rfl
theorem jf28 : (Rows.nestWholeRow.kinds == (if Rows.nestWholeRow.domain.isEmpty then [] else Tryz.f7.params.toList.map fun t => match Tryz.prog.underlying t with | some (.int k) => some k | _ => none)) = true := by kernel_rfl
theorem jf29 : (Rows.nestWholeRow.pinned == Rows.nestWholeRow.pinnedBy) = true := by kernel_rfl
theorem jf30 : (Rows.nestWholeRow.veiled == (Tryz.f7.params.toList ++ Rows.nestWholeSpec.plain.varTypes Tryz.prog ++ Tryz.f7.resultTypes.toList).any (Tryz.prog.veiledRec ·)) = true := by kernel_rfl
theorem jf31 : Rows.nestWholeRow.veiledFits Tryz.prog Tryz.f7.params.toList (Tryz.f7.params.toList ++ Rows.nestWholeSpec.plain.varTypes Tryz.prog ++ Tryz.f7.resultTypes.toList) = true := by kernel_rfl
set_option maxRecDepth 100000 in
theorem closed : joinedFacts Tryz.prog 7 Tryz.f7 Rows.nestWholeSpec Rows.nestWholeRow = true := by
  simp only [joinedFacts, Bool.and_eq_true]
  exact ⟨⟨⟨⟨⟨⟨⟨⟨⟨⟨⟨⟨⟨⟨⟨⟨⟨⟨⟨⟨⟨⟨⟨⟨⟨⟨⟨⟨⟨⟨⟨jf0, jf1⟩, jf2⟩, jf3⟩, jf4⟩, jf5⟩, jf6⟩, jf7⟩, jf8⟩, jf9⟩, jf10⟩, jf11⟩, jf12⟩, jf13⟩, jf14⟩, jf15⟩, jf16⟩, jf17⟩, jf18⟩, jf19⟩, jf20⟩, jf21⟩, jf22⟩, jf23⟩, jf24⟩, jf25⟩, jf26⟩, jf27⟩, jf28⟩, jf29⟩, jf30⟩, jf31⟩
theorem named : Tryz.prog.funcNamed "roundsman/roundsmanlaw14.NestWhole" = some 7 := by kernel_rfl
theorem inst : Tryz.f7.isInstance Tryz.prog Rows.nestWholeRow.origin Rows.nestWholeRow.targs := of_decide_eq_true (by kernel_rfl)
theorem wrap : Tryz.f7.isWrapper Tryz.prog Rows.nestWholeRow.wrapper Rows.nestWholeRow.mainSum := by unfold Func.isWrapper; rw [if_neg (of_decide_eq_false (by kernel_rfl))]; exact ⟨rfl, rfl⟩
theorem over : Rows.NestWholeSaid :=
  OpenClaim.holds_of_wide 7 Tryz.f7 rfl rfl rfl rfl rfl rfl rfl ⟨rfl, rfl, rfl, rfl, rfl⟩ rfl rfl rfl rfl rfl named Tryz.func7 closed inst wrap
    (fun os started H enc _ => lifted os started H enc)

theorem byText : Rows.nestWholeRow.wfByText (OpenSpec.ofChange Rows.nestWholeSpec) = true := by kernel_rfl
theorem mainIs : Tryz.prog.mainIs = some (((true, "2b1f69522e020e816194f642fef3ee242ceb4b4957158c9f90373acd632430ef") : Bool × String).1, ((true, "2b1f69522e020e816194f642fef3ee242ceb4b4957158c9f90373acd632430ef") : Bool × String).2.toList) := by kernel_rfl
theorem looksL : true = Tryz.prog.looks [] := by kernel_rfl
theorem goes : false = Rows.nestWholeRow.goesBy Tryz.prog := by kernel_rfl
theorem proved : Rows.NestWholeCardSaid :=
  Claim7.holds_tied_plain_at .later [] [.handle] true (true, "2b1f69522e020e816194f642fef3ee242ceb4b4957158c9f90373acd632430ef") true
    over (fun _ h => by cases h) byText (fun _ h => by cases h) nestWhole_row_tie rfl ⟨rfl, rfl⟩ mainIs rfl
    (fun f fn hf hfn => by
      obtain rfl : f = 7 := Option.some.inj (named.symm.trans hf) |>.symm
      obtain rfl : fn = Tryz.f7 := (Option.some.inj (Tryz.func7.symm.trans hfn)).symm
      exact ⟨looksL, fun j t ht => by
        rw [Tryz.params7] at ht
        rcases j with _ | _ | j
        · obtain rfl : t = 26 := by simpa using ht.symm
          exact (show Tryz.prog.wantsStandIn 26 = false by kernel_rfl)
        · obtain rfl : t = 59 := by simpa using ht.symm
          exact (show Tryz.prog.wantsStandIn 59 = false by kernel_rfl)
        · simp at ht⟩)
    goes
#print axioms proved
end NestWholeDone
end Go.Proofs.YtpffhoefmcpniaaGreatDoor
