/- For every input NestBuilds returns true, and its arguments read afterwards as before; package errors' variable errorType tied to the program's text. No condition. -/
import Derived.Test.YtpffhoefmcpniaaGreatDoorB1
import Derived.Test.YtpffhoefmcpniaaGreatDoorB42
import Derived.Test.YtpffhoefmcpniaaGreatDoorB45
namespace Go.Proofs.YtpffhoefmcpniaaGreatDoor
open Go.ChangeShapes Go.WideShapes Go.ChangeAt Go.RowKit Go.Deep
namespace NestBuildsDone

set_option maxRecDepth 100000 in
theorem lifted (os : Os) (started : os.Started) (H : Type) (enc : TypeId × Value → H) :
 ReturnsInHanded {} Tryz.checked os 3 .any (fun w args => (Rows.nestBuildsSpec.pre enc Tryz.prog Tryz.f3 [] false w args ∧ laidMetH Tryz.prog [("errors.errorType", Rows.laid_errors_errorType)] w) ∧ sizedMet enc Tryz.prog Tryz.f3 (OpenSpec.ofChange Rows.nestBuildsSpec) false w args)
  (Rows.nestBuildsSpec.post enc Tryz.prog Tryz.f3 false true false false) := by
 refine returnsInHanded_of_change_and (C := Tryz.checked) (X := fun w _ => laidMetH Tryz.prog [("errors.errorType", Rows.laid_errors_errorType)] w) (fun _ _ _ hh h => h.of_heap hh) own_ started (by kernel_rfl) Tryz.func3
  (ChangeSpec.witness_at (enc := enc) (C := Tryz.checked) (os := os) (X := fun w _ => laidMetH Tryz.prog [("errors.errorType", Rows.laid_errors_errorType)] w) false (laidWorld os) #[.agg #[.slice none 0 0, .slice none 0 0, .slice none 0 0], .slice none 0 0] 8 rfl (by kernel_rfl) (by kernel_rfl) (by kernel_rfl) (by kernel_rfl) (by kernel_rfl) (laidWorld_met os _)) ?_
 intro W base args ds gs before hval0 hW _ hsz0 hL _
 have hsz : (DataW.weightsEach Tryz.prog (Tryz.f3.params.toList ++ Rows.nestBuildsSpec.plain.varTypes Tryz.prog) (ds ++ gs)).all (· ≤ reachBytes) = true := hsz0
 clear hsz0
 have hval : ∀ (j : Nat) t v, Tryz.f3.params[j]? = some t → args[j]? = some v → Value.okWide Tryz.prog W .any base t v := hval0
 have hW' := hW
 obtain ⟨p, q, hA0, hV, rfl, hfz, hnd⟩ := hW
 have hA : DataW.TrodAll enc Tryz.prog W 0 (fun _ => true) true Tryz.f3.params.toList args.toList ds p := hA0
 rw [Tryz.params3] at hA hval hsz
 obtain ⟨v0, vs0, d0, ds0, p0, q0, hargs, rfl, rfl, h0, r0⟩ := trodAll_cons hA
 obtain ⟨v1, vs1, d1, ds1, p1, q1, rfl, rfl, rfl, h1, r1⟩ := trodAll_cons r0
 obtain ⟨rfl, rfl, rfl⟩ := trodAll_nil r1
 obtain rfl : args = #[v0, v1] := by cases args; simp_all
 obtain ⟨rfl, rfl⟩ := trodVars_none hV
 obtain ⟨cs0, rfl, _⟩ := okWide_struct Tryz.underlying26 (hval 0 26 v0 rfl rfl)
 have k0 := h0
 have lt0 : ∀ x ∈ p0, x.block < W.heap.size := by obtain ⟨m, hm⟩ := k0; exact DataW.trod_lt m _ _ _ hm
 obtain ⟨A, B, C, n, m, k, c, d, e, N, hcs0, hnet, hk⟩ : ∃ (A B C : Option Addr) (n m k c d e : Nat) (N : NetD), cs0 = #[.slice A n c, .slice B m d, .slice C k e] ∧ RdNet W A B C n m k N ∧ k ≤ 9223372036854775807 := by
  obtain ⟨fuel, hf⟩ := h0
  obtain ⟨A, B, C, n, m, k, c, d, e, N, e1, e2, e3⟩ := open_net hf
  exact ⟨A, B, C, n, m, k, c, d, e, N, Array.toList_inj.1 e1, e2, e3⟩
 subst hcs0
 obtain ⟨a1, len1, cap1, rfl⟩ := okWide_slice Tryz.underlying27 (hval 1 27 v1 rfl rfl)
 have k1 := h1
 have lt1 : ∀ x ∈ p1, x.block < W.heap.size := by obtain ⟨m, hm⟩ := k1; exact DataW.trod_lt m _ _ _ hm
 obtain ⟨l1, hl1, hb1, hwf1⟩ : ∃ l : List Int, RdI W a1 len1 l ∧ len1 ≤ 4000000000000000000 ∧ ∀ a ∈ l, (Lit.int .i64 a).wf = true := by
  obtain ⟨fuel, hf⟩ := h1
  obtain ⟨l, hl, _, _, hs, hwf⟩ := open_intsK Tryz.underlying27 Tryz.underlying3 (by kernel_rfl) hf
  refine ⟨l, hl, ?_, hwf⟩
  rcases hs with h | ⟨el, sp, hx, hel⟩
  · omega
  · have := sized_slice hsz (j := 1) (t := 27) (e := 3) (elems := el) (spare := sp) rfl (by simpa using hx) Tryz.underlying27
    rw [show Tryz.prog.bytesOf 3 = 8 by kernel_rfl] at this
    simp only [reachBytes] at this
    omega
 clear hA0 hval0
 have hg := handle_of_laid hL
 refine (nestBuilds_walk A B C n m k c d e N a1 len1 cap1 l1 W hnet hk hl1 hb1 (fun a ha => bounds_i64 (hwf1 a ha)) hg).mono fun e W' ⟨he, bel⟩ => ?_
 subst he
 exact ⟨_, rfl, _, _, _, [], _, [], hW', trodAll_mk1 (shut_bool Tryz.underlying4 _), (trodAll_cons_mk (Below.trod laidOut_ (by kernel_rfl) (of_decide_eq_true (by kernel_rfl)) k0 bel lt0) (trodAll_cons_mk (Below.trod laidOut_ (by kernel_rfl) (of_decide_eq_true (by kernel_rfl)) k1 bel lt1) trodAll_mk0)), rfl, bel.frame _, fun h => by cases h⟩

theorem jf0 : Rows.nestBuildsRow.wf (OpenSpec.ofChange Rows.nestBuildsSpec) = true := by kernel_rfl
theorem jf1 : laidOutB Tryz.prog = true := by kernel_rfl
theorem jf2 : mapsRowed Tryz.prog = true := by kernel_rfl
theorem jf3 : Tryz.f3.params.all (Tryz.prog.readableRec ·) = true := by kernel_rfl
theorem jf4 : namedTie Tryz.prog Rows.nestBuildsRow.named Rows.nestBuildsSpec.vars = true := by kernel_rfl
theorem jf5 : (Rows.nestBuildsRow.stops == []) = true := by kernel_rfl
theorem jf6 : (Tryz.prog.stops == []) = true := by kernel_rfl
theorem jf7 : (Rows.nestBuildsRow.knobs == []) = true := by kernel_rfl
theorem jf8 : (Tryz.prog.stopKnobs == []) = true := by kernel_rfl
theorem jf9 : (Rows.nestBuildsRow.inPlace == Tryz.prog.inPlace 3) = true := by kernel_rfl
theorem jf10 : (Rows.nestBuildsRow.unfollowed == Tryz.prog.unfollowed 3) = true := by kernel_rfl
theorem jf11 : (Rows.nestBuildsRow.recurses == Tryz.prog.recurses 3) = true := by kernel_rfl
theorem jf12 : (Rows.nestBuildsRow.named == Tryz.prog.varsNamed 3) = true := by kernel_rfl
theorem jf13 : (Rows.nestBuildsRow.maps == (Tryz.f3.params.toList ++ Rows.nestBuildsSpec.plain.varTypes Tryz.prog).any (Tryz.prog.mapsRec ·)) = true := by kernel_rfl
theorem jf14 : (Rows.nestBuildsRow.ifaces == (Tryz.f3.params.toList ++ Rows.nestBuildsSpec.plain.varTypes Tryz.prog).any (Tryz.prog.ifacesRec ·)) = true := by kernel_rfl
theorem jf15 : (Rows.nestBuildsRow.mapsOut == Tryz.prog.mapsAmong Tryz.f3.resultTypes.toList) = true := by kernel_rfl
theorem jf16 : (Rows.nestBuildsRow.loops == (Tryz.f3.params.toList ++ Rows.nestBuildsSpec.plain.varTypes Tryz.prog).any (Tryz.prog.loopsFrom ·)) = true := by kernel_rfl
theorem jf17 : (Rows.nestBuildsRow.wideKeys == (Tryz.f3.params.toList ++ Rows.nestBuildsSpec.plain.varTypes Tryz.prog ++ Tryz.f3.resultTypes.toList).any (Tryz.prog.wideKeysFrom ·)) = true := by kernel_rfl
theorem jf18 : Rows.nestBuildsSpec.vars.all (Tryz.prog.varReadable ·) = true := by kernel_rfl
theorem jf19 : Tryz.f3.resultTypes.all (fun t => Tryz.prog.readableRec t && decide (t < Tryz.prog.types.size)) = true := by kernel_rfl
theorem jf20 : (Rows.nestBuildsRow.ifacesOut == Tryz.f3.resultTypes.toList.any (Tryz.prog.ifacesRec ·)) = true := by kernel_rfl
theorem jf21 : (Rows.nestBuildsRow.loopsOut == Tryz.f3.resultTypes.toList.any (Tryz.prog.loopsFrom ·)) = true := by kernel_rfl
theorem jf22 : (Rows.nestBuildsRow.plainKeys == Tryz.prog.plainKeys) = true := by kernel_rfl
theorem jf23 : Rows.nestBuildsRow.shortTexts.isNone = true := by kernel_rfl
theorem jf24 : Tryz.prog.stopsHeard = true := by kernel_rfl
theorem jf25 : Tryz.prog.mayEnter = true := by kernel_rfl
theorem jf26 : (Rows.nestBuildsRow.lifted == Tryz.prog.liftsFinal) = true := by kernel_rfl
theorem jf27 : (Tryz.prog.make == some Rows.nestBuildsRow.make) = true := by kernel_rfl
theorem jf28 : (Rows.nestBuildsRow.kinds == (if Rows.nestBuildsRow.domain.isEmpty then [] else Tryz.f3.params.toList.map fun t => match Tryz.prog.underlying t with | some (.int k) => some k | _ => none)) = true := by kernel_rfl
theorem jf29 : (Rows.nestBuildsRow.pinned == Rows.nestBuildsRow.pinnedBy) = true := by kernel_rfl
theorem jf30 : (Rows.nestBuildsRow.veiled == (Tryz.f3.params.toList ++ Rows.nestBuildsSpec.plain.varTypes Tryz.prog ++ Tryz.f3.resultTypes.toList).any (Tryz.prog.veiledRec ·)) = true := by kernel_rfl
theorem jf31 : Rows.nestBuildsRow.veiledFits Tryz.prog Tryz.f3.params.toList (Tryz.f3.params.toList ++ Rows.nestBuildsSpec.plain.varTypes Tryz.prog ++ Tryz.f3.resultTypes.toList) = true := by kernel_rfl
set_option maxRecDepth 100000 in
theorem closed : joinedFacts Tryz.prog 3 Tryz.f3 Rows.nestBuildsSpec Rows.nestBuildsRow = true := by
 simp only [joinedFacts, Bool.and_eq_true]
 exact ⟨⟨⟨⟨⟨⟨⟨⟨⟨⟨⟨⟨⟨⟨⟨⟨⟨⟨⟨⟨⟨⟨⟨⟨⟨⟨⟨⟨⟨⟨⟨jf0, jf1⟩, jf2⟩, jf3⟩, jf4⟩, jf5⟩, jf6⟩, jf7⟩, jf8⟩, jf9⟩, jf10⟩, jf11⟩, jf12⟩, jf13⟩, jf14⟩, jf15⟩, jf16⟩, jf17⟩, jf18⟩, jf19⟩, jf20⟩, jf21⟩, jf22⟩, jf23⟩, jf24⟩, jf25⟩, jf26⟩, jf27⟩, jf28⟩, jf29⟩, jf30⟩, jf31⟩
theorem named : Tryz.prog.funcNamed "roundsman/roundsmanlaw14.NestBuilds" = some 3 := by kernel_rfl
theorem inst : Tryz.f3.isInstance Tryz.prog Rows.nestBuildsRow.origin Rows.nestBuildsRow.targs := of_decide_eq_true (by kernel_rfl)
theorem wrap : Tryz.f3.isWrapper Tryz.prog Rows.nestBuildsRow.wrapper Rows.nestBuildsRow.mainSum := by unfold Func.isWrapper; rw [if_neg (of_decide_eq_false (by kernel_rfl))]; exact ⟨rfl, rfl⟩
theorem over : Rows.NestBuildsSaid :=
 OpenClaim.holds_of_wide 3 Tryz.f3 rfl rfl rfl rfl rfl rfl rfl ⟨rfl, rfl, rfl, rfl, rfl⟩ rfl rfl rfl rfl rfl named Tryz.func3 closed inst wrap
  (fun os started H enc _ => lifted os started H enc)

theorem byText : Rows.nestBuildsRow.wfByText (OpenSpec.ofChange Rows.nestBuildsSpec) = true := by kernel_rfl
theorem mainIs : Tryz.prog.mainIs = some (((true, "2b1f69522e020e816194f642fef3ee242ceb4b4957158c9f90373acd632430ef") : Bool × String).1, ((true, "2b1f69522e020e816194f642fef3ee242ceb4b4957158c9f90373acd632430ef") : Bool × String).2.toList) := by kernel_rfl
theorem looksL : true = Tryz.prog.looks [] := by kernel_rfl
theorem goes : false = Rows.nestBuildsRow.goesBy Tryz.prog := by kernel_rfl
theorem proved : Rows.NestBuildsCardSaid :=
 Claim7.holds_tied_plain_at .later [] [.handle] true (true, "2b1f69522e020e816194f642fef3ee242ceb4b4957158c9f90373acd632430ef") true
  over (fun _ h => by cases h) byText (fun _ h => by cases h) nestBuilds_row_tie rfl ⟨rfl, rfl⟩ mainIs rfl
  (fun f fn hf hfn => by
   obtain rfl : f = 3 := Option.some.inj (named.symm.trans hf) |>.symm
   obtain rfl : fn = Tryz.f3 := (Option.some.inj (Tryz.func3.symm.trans hfn)).symm
   exact ⟨looksL, fun j t ht => by
    rw [Tryz.params3] at ht
    rcases j with _ | _ | j
    · obtain rfl : t = 26 := by simpa using ht.symm
      exact (show Tryz.prog.wantsStandIn 26 = false by kernel_rfl)
    · obtain rfl : t = 27 := by simpa using ht.symm
      exact (show Tryz.prog.wantsStandIn 27 = false by kernel_rfl)
    · simp at ht⟩)
  goes
#print axioms proved
end NestBuildsDone
end Go.Proofs.YtpffhoefmcpniaaGreatDoor
