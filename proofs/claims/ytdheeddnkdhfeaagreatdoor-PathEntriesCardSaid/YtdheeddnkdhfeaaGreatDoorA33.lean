/- For every input PathEntries returns true, and its arguments read afterwards as before; package errors' variable errorType tied to the program's text. No condition. -/
/- Parts of the proof: YxP. -/
import Derived.Test.YtdheeddnkdhfeaaGreatDoorA32
namespace Go.Proofs.YtdheeddnkdhfeaaGreatDoor
open Go.ChangeShapes Go.WideShapes Go.ChangeAt Go.RowKit Go.Deep
namespace PathEntriesDone
set_option maxRecDepth 100000 in
theorem lifted (os:Os)(started:os.Started)(H:Type)(enc:TypeId×Value→H) :
 ReturnsInHanded {} Tryz.checked os 5 .any (fun w args => (Rows.pathEntriesSpec.pre enc Tryz.prog Tryz.f5 [] false w args ∧ laidMetH Tryz.prog [("errors.errorType", Rows.laid_errors_errorType)] w) ∧ sizedMet enc Tryz.prog Tryz.f5 (OpenSpec.ofChange Rows.pathEntriesSpec) false w args)
  (Rows.pathEntriesSpec.post enc Tryz.prog Tryz.f5 false true false false):=by
 refine returnsInHanded_of_change_and (C := Tryz.checked) (X := fun w _ => laidMetH Tryz.prog [("errors.errorType", Rows.laid_errors_errorType)] w) (fun _ _ _ hh h => h.of_heap hh) own_ started (by kernel_rfl) Tryz.func5
  (ChangeSpec.witness_at (enc := enc) (C := Tryz.checked) (os := os) (X := fun w _ => laidMetH Tryz.prog [("errors.errorType", Rows.laid_errors_errorType)] w) false (Qjn os) #[.agg #[.slice none 0 0, .slice none 0 0, .slice none 0 0], .agg #[.slice none 0 0]] 8 rfl (by kernel_rfl) (by kernel_rfl) (by kernel_rfl) (by kernel_rfl) (by kernel_rfl) (Qhs os _)) ?_
 intro W base args ds gs before hval0 hW _ hsz0 hL _;clear hsz0;have hval:∀ (j:Nat) t v,Tryz.f5.params[j]?=some t→args[j]?=some v→Value.okWide Tryz.prog W .any base t v:=hval0;have hW':=hW;obtain ⟨p,q,hA0,hV,rfl,hfz,hnd⟩:=hW;have hA:DataW.TrodAll enc Tryz.prog W 0 (fun _=>true) true Tryz.f5.params.toList args.toList ds p:=hA0;rw [Tryz.params5] at hA hval;obtain ⟨v0,vs0,d0,ds0,p0,q0,hargs,rfl,rfl,h0,r0⟩:=trodAll_cons hA;obtain ⟨v1,vs1,d1,ds1,p1,q1,rfl,rfl,rfl,h1,r1⟩:=trodAll_cons r0;obtain ⟨rfl,rfl,rfl⟩:=trodAll_nil r1;obtain rfl:args=#[v0,v1]:=by cases args;simp_all
 obtain ⟨rfl,rfl⟩:=trodVars_none hV;obtain ⟨cs0,rfl,_⟩:=okWide_struct Tryz.underlying26 (hval 0 26 v0 rfl rfl);have k0:=h0;have lt0:∀ x∈p0,x.block<W.heap.size:=by obtain ⟨m,hm⟩:=k0;exact DataW.trod_lt m _ _ _ hm
 obtain ⟨A,B,C,n,m,k,c,d,e,N,hcs0,hnet,hk⟩:∃ (A B C:Option Addr) (n m k c d e:Nat) (N:Qam),cs0=#[.slice A n c,.slice B m d,.slice C k e]∧Qce W A B C n m k N∧k≤9223372036854775807:=by
  exact Kcb
 subst hcs0;obtain ⟨cs1,rfl,_⟩:=okWide_struct Tryz.underlying29 (hval 1 29 v1 rfl rfl);have k1:=h1;have lt1:∀ x∈p1,x.block<W.heap.size:=by obtain ⟨m,hm⟩:=k1;exact DataW.trod_lt m _ _ _ hm
 obtain ⟨Q,L,cq,ls,hcs1,hpart,hLc⟩:∃ (Q:Option Addr) (L cq:Nat) (ls:List (List Int)),cs1=#[.slice Q L cq]∧RdT W Q L ls∧L≤9223372036854775807:=by
  exact Kcd
 subst hcs1;clear hA0 hval0;have hg:=Qgv hL;refine (Qiu A B C Q n m k c d e L cq N ls W hnet hk hpart hLc hg).mono fun e W' ⟨he,bel⟩=>?_
 subst he;exact ⟨_,rfl,_,_,_,[],_,[],hW',trodAll_mk1 (shut_bool Tryz.underlying4 _),(trodAll_cons_mk (Below.trod Qje (by kernel_rfl) (of_decide_eq_true (by kernel_rfl)) k0 bel lt0) (trodAll_cons_mk (Below.trod Qje (by kernel_rfl) (of_decide_eq_true (by kernel_rfl)) k1 bel lt1) trodAll_mk0)),rfl,bel.frame _,fun h=>by cases h⟩
theorem jf0:Rows.pathEntriesRow.wf (OpenSpec.ofChange Rows.pathEntriesSpec)=true:=by kernel_rfl
theorem jf1:laidOutB Tryz.prog=true:=by kernel_rfl
theorem jf2:mapsRowed Tryz.prog=true:=by kernel_rfl
theorem jf3:Tryz.f5.params.all (Tryz.prog.readableRec ·)=true:=by kernel_rfl
theorem jf4:namedTie Tryz.prog Rows.pathEntriesRow.named Rows.pathEntriesSpec.vars=true:=by kernel_rfl
theorem jf5:(Rows.pathEntriesRow.stops == [])=true:=by kernel_rfl
theorem jf6:(Tryz.prog.stops == [])=true:=by kernel_rfl
theorem jf7:(Rows.pathEntriesRow.knobs == [])=true:=by kernel_rfl
theorem jf8:(Tryz.prog.stopKnobs == [])=true:=by kernel_rfl
theorem jf9:(Rows.pathEntriesRow.inPlace == Tryz.prog.inPlace 5)=true:=by kernel_rfl
theorem jf10:(Rows.pathEntriesRow.unfollowed == Tryz.prog.unfollowed 5)=true:=by kernel_rfl
theorem jf11:(Rows.pathEntriesRow.recurses == Tryz.prog.recurses 5)=true:=by kernel_rfl
theorem jf12:(Rows.pathEntriesRow.named == Tryz.prog.varsNamed 5)=true:=by kernel_rfl
theorem jf13:(Rows.pathEntriesRow.maps == (Tryz.f5.params.toList ++Rows.pathEntriesSpec.plain.varTypes Tryz.prog).any (Tryz.prog.mapsRec ·))=true:=by kernel_rfl
theorem jf14:(Rows.pathEntriesRow.ifaces == (Tryz.f5.params.toList ++Rows.pathEntriesSpec.plain.varTypes Tryz.prog).any (Tryz.prog.ifacesRec ·))=true:=by kernel_rfl
theorem jf15:(Rows.pathEntriesRow.mapsOut == Tryz.prog.mapsAmong Tryz.f5.resultTypes.toList)=true:=by kernel_rfl
theorem jf16:(Rows.pathEntriesRow.loops == (Tryz.f5.params.toList ++Rows.pathEntriesSpec.plain.varTypes Tryz.prog).any (Tryz.prog.loopsFrom ·))=true:=by kernel_rfl
theorem jf17:(Rows.pathEntriesRow.wideKeys == (Tryz.f5.params.toList ++Rows.pathEntriesSpec.plain.varTypes Tryz.prog ++Tryz.f5.resultTypes.toList).any (Tryz.prog.wideKeysFrom ·))=true:=by kernel_rfl
theorem jf18:Rows.pathEntriesSpec.vars.all (Tryz.prog.varReadable ·)=true:=by kernel_rfl
theorem jf19:Tryz.f5.resultTypes.all (fun t=>Tryz.prog.readableRec t && decide (t<Tryz.prog.types.size))=true:=by kernel_rfl
theorem jf20:(Rows.pathEntriesRow.ifacesOut == Tryz.f5.resultTypes.toList.any (Tryz.prog.ifacesRec ·))=true:=by kernel_rfl
theorem jf21:(Rows.pathEntriesRow.loopsOut == Tryz.f5.resultTypes.toList.any (Tryz.prog.loopsFrom ·))=true:=by kernel_rfl
theorem jf22:(Rows.pathEntriesRow.plainKeys == Tryz.prog.plainKeys)=true:=by kernel_rfl
theorem jf23:Rows.pathEntriesRow.shortTexts.isNone=true:=by kernel_rfl
theorem jf24:Tryz.prog.stopsHeard=true:=by kernel_rfl
theorem jf25:Tryz.prog.mayEnter=true:=by kernel_rfl
theorem jf26:(Rows.pathEntriesRow.lifted == Tryz.prog.liftsFinal)=true:=by kernel_rfl
theorem jf27:(Tryz.prog.make == some Rows.pathEntriesRow.make)=true:=by kernel_rfl
theorem jf28:(Rows.pathEntriesRow.kinds == (if Rows.pathEntriesRow.domain.isEmpty then [] else Tryz.f5.params.toList.map fun t=>match Tryz.prog.underlying t with|some (.int k)=>some k|_=>none))=true:=by kernel_rfl
theorem jf29:(Rows.pathEntriesRow.pinned == Rows.pathEntriesRow.pinnedBy)=true:=by kernel_rfl
theorem jf30:(Rows.pathEntriesRow.veiled == (Tryz.f5.params.toList ++Rows.pathEntriesSpec.plain.varTypes Tryz.prog ++Tryz.f5.resultTypes.toList).any (Tryz.prog.veiledRec ·))=true:=by kernel_rfl
theorem jf31:Rows.pathEntriesRow.veiledFits Tryz.prog Tryz.f5.params.toList (Tryz.f5.params.toList ++Rows.pathEntriesSpec.plain.varTypes Tryz.prog ++Tryz.f5.resultTypes.toList)=true:=by kernel_rfl
set_option maxRecDepth 100000 in
theorem closed:joinedFacts Tryz.prog 5 Tryz.f5 Rows.pathEntriesSpec Rows.pathEntriesRow=true:=by
 exact Kar
theorem named : Tryz.prog.funcNamed "roundsman/roundsmanlaw22.PathEntries" = some 5 := by kernel_rfl
theorem inst:Tryz.f5.isInstance Tryz.prog Rows.pathEntriesRow.origin Rows.pathEntriesRow.targs:=of_decide_eq_true (by kernel_rfl)
theorem wrap:Tryz.f5.isWrapper Tryz.prog Rows.pathEntriesRow.wrapper Rows.pathEntriesRow.mainSum:=by unfold Func.isWrapper;rw [if_neg (of_decide_eq_false (by kernel_rfl))];exact ⟨rfl,rfl⟩
theorem over:Rows.PathEntriesSaid :=
 OpenClaim.holds_of_wide 5 Tryz.f5 rfl rfl rfl rfl rfl rfl rfl ⟨rfl,rfl,rfl,rfl,rfl⟩ rfl rfl rfl rfl rfl named Tryz.func5 closed inst wrap
  (fun os started H enc _=>lifted os started H enc)
theorem byText:Rows.pathEntriesRow.wfByText (OpenSpec.ofChange Rows.pathEntriesSpec)=true:=by kernel_rfl
theorem mainIs : Tryz.prog.mainIs = some (((true, "e050398fe6459b335d862d199e00ee26368d24a03f5a06a9ac40ea2e9df76a20") : Bool × String).1, ((true, "e050398fe6459b335d862d199e00ee26368d24a03f5a06a9ac40ea2e9df76a20") : Bool × String).2.toList) := by kernel_rfl
theorem looksL:true=Tryz.prog.looks []:=by kernel_rfl
theorem goes:false=Rows.pathEntriesRow.goesBy Tryz.prog:=by kernel_rfl
theorem proved:Rows.PathEntriesCardSaid :=
 Claim7.holds_tied_plain_at .later [] [.handle] true (true, "e050398fe6459b335d862d199e00ee26368d24a03f5a06a9ac40ea2e9df76a20") true
  over (fun _ h=>by cases h) byText (fun _ h=>by cases h) pathEntries_row_tie rfl ⟨rfl,rfl⟩ mainIs rfl
  (fun f fn hf hfn=>by
   obtain rfl:f=5:=Yv (named.symm.trans hf) |>.symm
   obtain rfl:fn=Tryz.f5:=(Yv (Tryz.func5.symm.trans hfn)).symm
   exact ⟨looksL,fun j t ht=>by
    rw [Tryz.params5] at ht
    rcases j with _|_|j
    · obtain rfl:t=26:=by simpa using ht.symm
      exact (show Tryz.prog.wantsStandIn 26=false by kernel_rfl)
    · obtain rfl:t=29:=by simpa using ht.symm
      exact (show Tryz.prog.wantsStandIn 29=false by kernel_rfl)
    · simp at ht⟩)
  goes
#print axioms proved
end PathEntriesDone
end Go.Proofs.YtdheeddnkdhfeaaGreatDoor
