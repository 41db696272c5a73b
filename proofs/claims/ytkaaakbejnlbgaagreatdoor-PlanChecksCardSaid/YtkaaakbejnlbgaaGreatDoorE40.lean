/- For every input PlanChecks returns true, and its arguments read afterwards as before; package errors' variable errorType tied to the program's text. No condition. -/
/- Qbl of the proof: LwKP. -/
import Derived.Test.YtkaaakbejnlbgaaGreatDoorE33
import Derived.Test.YtkaaakbejnlbgaaGreatDoorE39
set_option maxHeartbeats 1000000
set_option maxRecDepth 100000
namespace Go.Proofs.YtkaaakbejnlbgaaGreatDoor
open Go.ChangeShapes Go.WideShapes Go.ChangeAt Go.RowKit Go.Deep
namespace PlanChecksDone
theorem lifted (os:Os)(started:os.Started)(H:Type)(enc:TypeId×Value→H) :
 ReturnsInHanded {} Tryz.checked os 4 .any (fun w args => (Rows.planChecksSpec.pre enc Tryz.prog Tryz.f4 [] false w args ∧ laidMetH Tryz.prog [("errors.errorType", Rows.laid_errors_errorType)] w) ∧ sizedMet enc Tryz.prog Tryz.f4 (OpenSpec.ofChange Rows.planChecksSpec) false w args)
  (Rows.planChecksSpec.post enc Tryz.prog Tryz.f4 false true false false):=by
 refine returnsInHanded_of_change_and (C := Tryz.checked) (X := fun w _ => laidMetH Tryz.prog [("errors.errorType", Rows.laid_errors_errorType)] w) (fun _ _ _ hh h => h.of_heap hh) own_ started Kf Tryz.func4
  (ChangeSpec.witness_at (enc := enc) (C := Tryz.checked) (os := os) (X := fun w _ => laidMetH Tryz.prog [("errors.errorType", Rows.laid_errors_errorType)] w) false (Qhl os) #[.agg #[.slice none 0 0, .slice none 0 0, .slice none 0 0], .agg #[.int .i64 0, .int .i64 0, .int .i64 0, .slice none 0 0], .agg #[.slice none 0 0, .int .i64 0]] 8 rfl Kf Kf Kf Kf Kf (Qek os _)) ?_
 intro W base args ds gs before hval0 hW _ hsz0 hL _;clear hsz0;have hval:∀ (j:Nat) t v,Tryz.f4.params[j]?=some t→args[j]?=some v→Value.okWide Tryz.prog W .any base t v:=hval0;have hW':=hW;obtain ⟨p,q,hA0,hV,rfl,hfz,hnd⟩:=hW;have hA:DataW.TrodAll enc Tryz.prog W 0 (fun _=>true) true Tryz.f4.params.toList args.toList ds p:=hA0;rw [Tryz.params4] at hA hval;obtain ⟨v0,vs0,d0,ds0,p0,q0,hargs,rfl,rfl,h0,r0⟩:=trodAll_cons hA;obtain ⟨v1,vs1,d1,ds1,p1,q1,rfl,rfl,rfl,h1,r1⟩:=trodAll_cons r0;obtain ⟨v2,vs2,d2,ds2,p2,q2,rfl,rfl,rfl,h2,r2⟩:=trodAll_cons r1;obtain ⟨rfl,rfl,rfl⟩:=trodAll_nil r2;obtain rfl:args=#[v0,v1,v2]:=by cases args;simp_all
 obtain ⟨rfl,rfl⟩:=trodVars_none hV;obtain ⟨cs0,rfl,_⟩:=okWide_struct Tryz.underlying26 (hval 0 26 v0 rfl rfl);have k0:=h0;have lt0:∀ x∈p0,x.block<W.heap.size:=by obtain ⟨m,hm⟩:=k0;exact DataW.trod_lt m _ _ _ hm
 obtain ⟨A,B,C,n,m,k,c,d,e,N,hcs0,hnet,hk⟩:∃ (A B C:Oz) (n m k c d e:Nat) (N:Qak),cs0=#[.slice A n c,.slice B m d,.slice C k e]∧Qcp W A B C n m k N∧k≤9223372036854775807:=by{exact Kav};subst hcs0;obtain ⟨cs1,rfl,_⟩:=okWide_struct Tryz.underlying32 (hval 1 32 v1 rfl rfl);have k1:=h1;have lt1:∀ x∈p1,x.block<W.heap.size:=by obtain ⟨m,hm⟩:=k1;exact DataW.trod_lt m _ _ _ hm
 obtain ⟨dep,cap,lim,JA,jn,jc,st,hcs1,hjob⟩:∃ (dep cap lim:Int) (JA:Oz) (jn jc:Nat) (st:Pz),cs1=#[.int .i64 dep,.int .i64 cap,.int .i64 lim,.slice JA jn jc]∧RdP W JA jn st:=by{obtain ⟨fuel,hf⟩:=h1;obtain ⟨dep,cap,lim,JA,jn,jc,st,e1,e2,_,_⟩:=Qsk hf;exact ⟨dep,cap,lim,JA,jn,jc,st,Array.toList_inj.1 e1,e2⟩};subst hcs1;obtain ⟨cs2,rfl,_⟩:=okWide_struct Tryz.underlying50 (hval 2 50 v2 rfl rfl);have k2:=h2;have lt2:∀ x∈p2,x.block<W.heap.size:=by obtain ⟨m,hm⟩:=k2;exact DataW.trod_lt m _ _ _ hm
 obtain ⟨RA,rn,rc,rs,cost,hcs2,hplan⟩:∃ (RA:Oz) (rn rc:Nat) (rs:Lz) (cost:Int),cs2=#[.slice RA rn rc,.int .i64 cost]∧RdT W RA rn rs:=by{obtain ⟨fuel,hf⟩:=h2;obtain ⟨RA,rn,rc,rs,cost,e1,e2,_,_⟩:=Rhe hf;exact ⟨RA,rn,rc,rs,cost,Array.toList_inj.1 e1,e2⟩};subst hcs2;clear hA0 hval0;have hg:=Qdv hL;refine (Qok A B C n m k c d e N dep cap lim JA jn jc st RA rn rc rs cost W hnet hk hjob hplan hg).mono fun e W' ⟨he,bel⟩=>?_
 exact Kao
theorem jf0:Rows.planChecksRow.wf (OpenSpec.ofChange Rows.planChecksSpec)=true:=Kf
theorem jf1:laidOutB Tryz.prog=true:=Kf
theorem jf2:mapsRowed Tryz.prog=true:=Kf
theorem jf3:Tryz.f4.params.all (Tryz.prog.readableRec ·)=true:=Kf
theorem jf4:namedTie Tryz.prog Rows.planChecksRow.named Rows.planChecksSpec.vars=true:=Kf
theorem jf5:(Rows.planChecksRow.stops == [])=true:=Kf
theorem jf6:(Tryz.prog.stops == [])=true:=Kf
theorem jf7:(Rows.planChecksRow.knobs == [])=true:=Kf
theorem jf8:(Tryz.prog.stopKnobs == [])=true:=Kf
theorem jf9:(Rows.planChecksRow.inPlace == Tryz.prog.inPlace 4)=true:=Kf
theorem jf10:(Rows.planChecksRow.unfollowed == Tryz.prog.unfollowed 4)=true:=Kf
theorem jf11:(Rows.planChecksRow.recurses == Tryz.prog.recurses 4)=true:=Kf
theorem jf12:(Rows.planChecksRow.named == Tryz.prog.varsNamed 4)=true:=Kf
theorem jf13:(Rows.planChecksRow.maps == (Tryz.f4.params.toList ++Rows.planChecksSpec.plain.varTypes Tryz.prog).any (Tryz.prog.mapsRec ·))=true:=Kf
theorem jf14:(Rows.planChecksRow.ifaces == (Tryz.f4.params.toList ++Rows.planChecksSpec.plain.varTypes Tryz.prog).any (Tryz.prog.ifacesRec ·))=true:=Kf
theorem jf15:(Rows.planChecksRow.mapsOut == Tryz.prog.mapsAmong Tryz.f4.resultTypes.toList)=true:=Kf
theorem jf16:(Rows.planChecksRow.loops == (Tryz.f4.params.toList ++Rows.planChecksSpec.plain.varTypes Tryz.prog).any (Tryz.prog.loopsFrom ·))=true:=Kf
theorem jf17:(Rows.planChecksRow.wideKeys == (Tryz.f4.params.toList ++Rows.planChecksSpec.plain.varTypes Tryz.prog ++Tryz.f4.resultTypes.toList).any (Tryz.prog.wideKeysFrom ·))=true:=Kf
theorem jf18:Rows.planChecksSpec.vars.all (Tryz.prog.varReadable ·)=true:=Kf
theorem jf19:Tryz.f4.resultTypes.all (fun t=>Tryz.prog.readableRec t && decide (t<Tryz.prog.types.size))=true:=Kf
theorem jf20:(Rows.planChecksRow.ifacesOut == Tryz.f4.resultTypes.toList.any (Tryz.prog.ifacesRec ·))=true:=Kf
theorem jf21:(Rows.planChecksRow.loopsOut == Tryz.f4.resultTypes.toList.any (Tryz.prog.loopsFrom ·))=true:=Kf
theorem jf22:(Rows.planChecksRow.plainKeys == Tryz.prog.plainKeys)=true:=Kf
theorem jf23:Rows.planChecksRow.shortTexts.isNone=true:=Kf
theorem jf24:Tryz.prog.stopsHeard=true:=Kf
theorem jf25:Tryz.prog.mayEnter=true:=Kf
theorem jf26:(Rows.planChecksRow.lifted == Tryz.prog.liftsFinal)=true:=Kf
theorem jf27:(Tryz.prog.make == some Rows.planChecksRow.make)=true:=Kf
theorem jf28:(Rows.planChecksRow.kinds == (if Rows.planChecksRow.domain.isEmpty then [] else Tryz.f4.params.toList.map fun t=>match Tryz.prog.underlying t with|some (.int k)=>some k|_=>none))=true:=Kf
theorem jf29:(Rows.planChecksRow.pinned == Rows.planChecksRow.pinnedBy)=true:=Kf
theorem jf30:(Rows.planChecksRow.veiled == (Tryz.f4.params.toList ++Rows.planChecksSpec.plain.varTypes Tryz.prog ++Tryz.f4.resultTypes.toList).any (Tryz.prog.veiledRec ·))=true:=Kf
theorem jf31:Rows.planChecksRow.veiledFits Tryz.prog Tryz.f4.params.toList (Tryz.f4.params.toList ++Rows.planChecksSpec.plain.varTypes Tryz.prog ++Tryz.f4.resultTypes.toList)=true:=Kf
theorem closed:joinedFacts Tryz.prog 4 Tryz.f4 Rows.planChecksSpec Rows.planChecksRow=true:=by exact Kak
theorem named : Tryz.prog.funcNamed "roundsman/roundsmanlaw27.PlanChecks" = some 4 := by kernel_rfl
theorem inst:Tryz.f4.isInstance Tryz.prog Rows.planChecksRow.origin Rows.planChecksRow.targs:=of_decide_eq_true Kf
theorem wrap:Tryz.f4.isWrapper Tryz.prog Rows.planChecksRow.wrapper Rows.planChecksRow.mainSum:=by unfold Func.isWrapper;rw [if_neg (of_decide_eq_false Kf)];exact ⟨rfl,rfl⟩
theorem over:Rows.PlanChecksSaid :=
 OpenClaim.holds_of_wide 4 Tryz.f4 rfl rfl rfl rfl rfl rfl rfl ⟨rfl,rfl,rfl,rfl,rfl⟩ rfl rfl rfl rfl rfl named Tryz.func4 closed inst wrap
  (fun os started H enc _=>lifted os started H enc)
theorem byText:Rows.planChecksRow.wfByText (OpenSpec.ofChange Rows.planChecksSpec)=true:=Kf
theorem mainIs : Tryz.prog.mainIs = some (((true, "f25173250175b9aacc832745e98502d9796bb224982b4f95df53e49dc850ce8a") : Bool × String).1, ((true, "f25173250175b9aacc832745e98502d9796bb224982b4f95df53e49dc850ce8a") : Bool × String).2.toList) := by kernel_rfl
theorem looksL:true=Tryz.prog.looks []:=Kf
theorem goes:false=Rows.planChecksRow.goesBy Tryz.prog:=Kf
theorem proved:Rows.PlanChecksCardSaid :=
 Claim7.holds_tied_plain_at .later [] [.handle] true (true, "f25173250175b9aacc832745e98502d9796bb224982b4f95df53e49dc850ce8a") true
  over (fun _ h=>by cases h) byText (fun _ h=>by cases h) planChecks_row_tie rfl ⟨rfl,rfl⟩ mainIs rfl
  (fun f fn hf hfn=>by
   obtain rfl:f=4:=Yv (named.symm.trans hf) |>.symm
   obtain rfl:fn=Tryz.f4:=(Yv (Tryz.func4.symm.trans hfn)).symm
   exact ⟨looksL,fun j t ht=>by
    rw [Tryz.params4] at ht
    rcases j with _|_|_|j
    · obtain rfl:t=26:=by simpa using ht.symm
      exact (show Tryz.prog.wantsStandIn 26=false by kernel_rfl)
    · obtain rfl:t=32:=by simpa using ht.symm
      exact (show Tryz.prog.wantsStandIn 32=false by kernel_rfl)
    · obtain rfl:t=50:=by simpa using ht.symm
      exact (show Tryz.prog.wantsStandIn 50=false by kernel_rfl)
    · simp at ht⟩)
  goes
#print axioms proved
end PlanChecksDone
