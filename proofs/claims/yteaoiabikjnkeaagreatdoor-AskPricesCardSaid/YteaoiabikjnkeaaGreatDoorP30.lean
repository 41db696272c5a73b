/- For every input AskPrices returns true, and its arguments read afterwards as before; package errors' variable errorType tied to the program's text. No condition. -/
import Derived.Test.YteaoiabikjnkeaaGreatDoorP1
import Derived.Test.YteaoiabikjnkeaaGreatDoorP27
import Derived.Test.YteaoiabikjnkeaaGreatDoorP29
import Derived.Test.YteaoiabikjnkeaaGreatDoorTie
import Derived.Test.YteaoiabikjnkeaaGreatDoorCards
import Derived.ChangeArms
import Derived.Handed
import Derived.ChangeSame
import Derived.ChangeVars
import Derived.JoinedOf
import Derived.LaidLaws
import Derived.LaidHandle
import Derived.SevenTiedAt
namespace Go.Proofs.YteaoiabikjnkeaaGreatDoor
open Go.ChangeShapes Go.WideShapes Go.ChangeAt Go.RowKit Go.Deep
theorem et_ : Tryz.prog.globalNamed "errors.errorType" = some 0 := by kernel_rfl
theorem rt_ : (Tryz.prog.cutTypes.find? (·.1 == "internal/reflectlite.rtype")).map (·.2) = some 300 := by kernel_rfl
theorem oneRow_:((List.range 397).filter fun t=>Tryz.prog.rowNamed t [101,114,114,111,114])=[43]:=by kernel_rfl
theorem size_:Tryz.prog.types.size=397:=by kernel_rfl
theorem Qll {W : World} (h : laidMetH Tryz.prog [("errors.errorType", Rows.laid_errors_errorType)] W) : W.cell? ⟨0, 0, none⟩ = some Qnq := by
 have h' : laidMet Tryz.prog [] W ∧ handlesMet Tryz.prog [("errors.errorType", Rows.laid_errors_errorType)] W := h
 obtain ⟨name,u,ty,e1,e2,e3,e4,e5⟩:=h'.2 _ (List.mem_singleton.2 rfl);have en:name=[101,114,114,111,114]:=(Option.some.inj e1).symm;subst en;obtain rfl:=Option.some.inj (rt_.symm.trans e2);have hm:ty∈(List.range 397).filter fun t=>Tryz.prog.rowNamed t [101,114,114,111,114]:=List.mem_filter.2 ⟨List.mem_range.2 (by rw [←size_];exact e3),e4⟩
 rw [oneRow_] at hm;obtain rfl:=List.mem_singleton.1 hm;have hh:typeHandle Tryz.prog 43=.pointer (some ⟨1,43,none⟩):=by kernel_rfl
 rw [hh] at e5;unfold Qnq
 simpa using World.var?_cell et_ e5 0
noncomputable def Qnw (os:Os):World :=
 let w0:=World.holding Tryz.prog os ⟨#[],#[],[]⟩
 { w0 with heap:=w0.heap.modify 0 fun
  | .cells _ t frozen=>.cells #[Qnq] t frozen
  | o=>o }
theorem Qnb (os : Os) (args : Array Value) : laidMetH Tryz.prog [("errors.errorType", Rows.laid_errors_errorType)] ((Qnw os).forCall (fun _ _ => 0) ⟨#[], args, []⟩).memory :=
 laidMetH_of_parts (laidMet_nil _ _) (by kernel_rfl)
end Go.Proofs.YteaoiabikjnkeaaGreatDoor
namespace Go.Proofs.YteaoiabikjnkeaaGreatDoor
open Go.ChangeShapes Go.WideShapes Go.ChangeAt Go.RowKit Go.Deep
namespace AskPricesDone
section
variable {H:Type} {enc:TypeId×Value→H} {w:World} {base:Nat} {spare:Nat→Bool} {held:Bool}
theorem rel_hop (fuel:Nat)(cs:List Value)(x:DataW H×List MemPlace)(h:DataW.trod enc Tryz.prog w base spare held fuel 58 cs=some x):∃ p:Tri,cs=[.int .i64 p.1,.int .i64 p.2.1,.int .i64 p.2.2]:=by
 obtain ⟨xs,m,_,_,hcl,hxl,hi⟩:=DataW.trod_struct Tryz.underlying58 h;have hxl':xs.length=3:=hxl;have a0:DataW.trod enc Tryz.prog w base spare held m 3 ((cs.drop 0).take (Tryz.prog.cellsOf 3))=xs[0]?:=hi 0 _ rfl;have a1:DataW.trod enc Tryz.prog w base spare held m 3 ((cs.drop 1).take (Tryz.prog.cellsOf 3))=xs[1]?:=hi 1 _ rfl;have a2:DataW.trod enc Tryz.prog w base spare held m 3 ((cs.drop 2).take (Tryz.prog.cellsOf 3))=xs[2]?:=hi 2 _ rfl;rw [Zg (by omega)] at a0 a1 a2;obtain ⟨n0,e0,_⟩:=DataW.trod_int Tryz.underlying3 a0;obtain ⟨n1,e1,_⟩:=DataW.trod_int Tryz.underlying3 a1;obtain ⟨n2,e2,_⟩:=DataW.trod_int Tryz.underlying3 a2;rw [show Tryz.prog.cellsOf 58=3 by kernel_rfl] at hcl
 rw [show Tryz.prog.cellsOf 3=1 by kernel_rfl] at e0 e1 e2
 clear a0 a1 a2 hi h;obtain ⟨c0,c1,c2,rfl⟩:=Qev hcl;simp at e0 e1 e2;exact ⟨(n0,n1,n2),by simp [e0,e1,e2]⟩
end
set_option maxRecDepth 100000 in
theorem lifted (os:Os)(started:os.Started)(H:Type)(enc:TypeId×Value→H) :
 ReturnsInHanded {} Tryz.checked os 4 .any (fun w args => (Rows.askPricesSpec.pre enc Tryz.prog Tryz.f4 [] false w args ∧ laidMetH Tryz.prog [("errors.errorType", Rows.laid_errors_errorType)] w) ∧ sizedMet enc Tryz.prog Tryz.f4 (OpenSpec.ofChange Rows.askPricesSpec) false w args)
  (Rows.askPricesSpec.post enc Tryz.prog Tryz.f4 false true false false):=by
 refine returnsInHanded_of_change_and (C := Tryz.checked) (X := fun w _ => laidMetH Tryz.prog [("errors.errorType", Rows.laid_errors_errorType)] w) (fun _ _ _ hh h => h.of_heap hh) own_ started (by kernel_rfl) Tryz.func4
  (ChangeSpec.witness_at (enc := enc) (C := Tryz.checked) (os := os) (X := fun w _ => laidMetH Tryz.prog [("errors.errorType", Rows.laid_errors_errorType)] w) false (Qnw os) #[.agg #[.slice none 0 0, .slice none 0 0, .slice none 0 0], .agg #[.slice none 0 0], .int .i64 0, .int .i64 0, .int .i64 0, .agg #[.int .i64 0, .int .i64 0, .int .i64 0]] 8 rfl (by kernel_rfl) (by kernel_rfl) (by kernel_rfl) (by kernel_rfl) (by kernel_rfl) (Qnb os _)) ?_
 intro W base args ds gs before hval0 hW _ hsz0 hL _;clear hsz0;have hval:∀ (j:Nat) t v,Tryz.f4.params[j]?=some t→args[j]?=some v→Value.okWide Tryz.prog W .any base t v:=hval0;have hW':=hW;obtain ⟨p,q,hA0,hV,rfl,hfz,hnd⟩:=hW;have hA:DataW.TrodAll enc Tryz.prog W 0 (fun _=>true) true Tryz.f4.params.toList args.toList ds p:=hA0;rw [Tryz.params4] at hA hval;obtain ⟨v0,vs0,d0,ds0,p0,q0,hargs,rfl,rfl,h0,r0⟩:=trodAll_cons hA;obtain ⟨v1,vs1,d1,ds1,p1,q1,rfl,rfl,rfl,h1,r1⟩:=trodAll_cons r0;obtain ⟨v2,vs2,d2,ds2,p2,q2,rfl,rfl,rfl,h2,r2⟩:=trodAll_cons r1;obtain ⟨v3,vs3,d3,ds3,p3,q3,rfl,rfl,rfl,h3,r3⟩:=trodAll_cons r2;obtain ⟨v4,vs4,d4,ds4,p4,q4,rfl,rfl,rfl,h4,r4⟩:=trodAll_cons r3;obtain ⟨v5,vs5,d5,ds5,p5,q5,rfl,rfl,rfl,h5,r5⟩:=trodAll_cons r4;obtain ⟨rfl,rfl,rfl⟩:=trodAll_nil r5;obtain rfl:args=#[v0,v1,v2,v3,v4,v5]:=by cases args;simp_all
 obtain ⟨rfl,rfl⟩:=trodVars_none hV;obtain ⟨cs0,rfl,_⟩:=okWide_struct Tryz.underlying26 (hval 0 26 v0 rfl rfl);have k0:=h0;have lt0:∀ x∈p0,x.block<W.heap.size:=by obtain ⟨m,hm⟩:=k0;exact DataW.trod_lt m _ _ _ hm
 obtain ⟨A,B,C,n,m,k,c,d,e,N,hcs0,hnet,hk⟩:∃ (A B C:Option Addr) (n m k c d e:Nat) (N:Qao),cs0=#[.slice A n c,.slice B m d,.slice C k e]∧Qby W A B C n m k N∧k≤9223372036854775807:=by
  obtain ⟨fuel,hf⟩:=h0;obtain ⟨A,B,C,n,m,k,c,d,e,N,e1,e2,e3⟩:=open_net hf;exact ⟨A,B,C,n,m,k,c,d,e,N,Array.toList_inj.1 e1,e2,e3⟩
 subst hcs0;obtain ⟨cs1,rfl,_⟩:=okWide_struct Tryz.underlying29 (hval 1 29 v1 rfl rfl);have k1:=h1;have lt1:∀ x∈p1,x.block<W.heap.size:=by obtain ⟨m,hm⟩:=k1;exact DataW.trod_lt m _ _ _ hm
 obtain ⟨Q,L,cq,ls,hcs1,hpart,hLc⟩:∃ (Q:Option Addr) (L cq:Nat) (ls:List (List Int)),cs1=#[.slice Q L cq]∧RdT W Q L ls∧L≤9223372036854775807:=by
  obtain ⟨fuel,hf⟩:=h1;obtain ⟨Q,L,cq,ls,e1,e2,e3,e4⟩:=Qwo hf;exact ⟨Q,L,cq,ls,Array.toList_inj.1 e1,e2,by omega⟩
 subst hcs1;obtain ⟨a2,rfl,rfl,rfl,w2⟩:=open_int Tryz.underlying3 (hval 2 3 v2 rfl rfl) h2;obtain ⟨a3,rfl,rfl,rfl,w3⟩:=open_int Tryz.underlying3 (hval 3 3 v3 rfl rfl) h3;obtain ⟨a4,rfl,rfl,rfl,w4⟩:=open_int Tryz.underlying3 (hval 4 3 v4 rfl rfl) h4;obtain ⟨cs5,rfl,_⟩:=okWide_struct Tryz.underlying58 (hval 5 58 v5 rfl rfl);have k5:=h5;have lt5:∀ x∈p5,x.block<W.heap.size:=by obtain ⟨m,hm⟩:=k5;exact DataW.trod_lt m _ _ _ hm
 obtain ⟨hp5,hcs5⟩:∃ p:Tri,cs5=#[.int .i64 p.1,.int .i64 p.2.1,.int .i64 p.2.2]:=by
  obtain ⟨fuel,hf⟩:=h5;obtain ⟨p,e1⟩:=rel_hop _ _ _ hf;exact ⟨p,Array.toList_inj.1 e1⟩
 subst hcs5;clear hA0 hval0;have hg:=Qll hL;refine (Qlj A B C Q n m k c d e L cq N ls a2 a3 a4 hp5.1 hp5.2.1 hp5.2.2 W hnet hk hpart hLc hg).mono fun e W' ⟨he,bel⟩=>?_
 subst he;exact ⟨_,rfl,_,_,_,[],_,[],hW',trodAll_mk1 (shut_bool Tryz.underlying4 _),(trodAll_cons_mk (Below.trod Qmy (by kernel_rfl) (of_decide_eq_true (by kernel_rfl)) k0 bel lt0) (trodAll_cons_mk (Below.trod Qmy (by kernel_rfl) (of_decide_eq_true (by kernel_rfl)) k1 bel lt1) (trodAll_cons_mk (shut_int Tryz.underlying3 w2) (trodAll_cons_mk (shut_int Tryz.underlying3 w3) (trodAll_cons_mk (shut_int Tryz.underlying3 w4) (trodAll_cons_mk (Below.trod Qmy (by kernel_rfl) (of_decide_eq_true (by kernel_rfl)) k5 bel lt5) trodAll_mk0)))))),rfl,bel.frame _,fun h=>by cases h⟩
theorem jf0:Rows.askPricesRow.wf (OpenSpec.ofChange Rows.askPricesSpec)=true:=by kernel_rfl
theorem jf1:laidOutB Tryz.prog=true:=by kernel_rfl
theorem jf2:mapsRowed Tryz.prog=true:=by kernel_rfl
theorem jf3:Tryz.f4.params.all (Tryz.prog.readableRec ·)=true:=by kernel_rfl
theorem jf4:namedTie Tryz.prog Rows.askPricesRow.named Rows.askPricesSpec.vars=true:=by kernel_rfl
theorem jf5:(Rows.askPricesRow.stops == [])=true:=by kernel_rfl
theorem jf6:(Tryz.prog.stops == [])=true:=by kernel_rfl
theorem jf7:(Rows.askPricesRow.knobs == [])=true:=by kernel_rfl
theorem jf8:(Tryz.prog.stopKnobs == [])=true:=by kernel_rfl
theorem jf9:(Rows.askPricesRow.inPlace == Tryz.prog.inPlace 4)=true:=by kernel_rfl
theorem jf10:(Rows.askPricesRow.unfollowed == Tryz.prog.unfollowed 4)=true:=by kernel_rfl
theorem jf11:(Rows.askPricesRow.recurses == Tryz.prog.recurses 4)=true:=by kernel_rfl
theorem jf12:(Rows.askPricesRow.named == Tryz.prog.varsNamed 4)=true:=by kernel_rfl
theorem jf13:(Rows.askPricesRow.maps == (Tryz.f4.params.toList ++Rows.askPricesSpec.plain.varTypes Tryz.prog).any (Tryz.prog.mapsRec ·))=true:=by kernel_rfl
theorem jf14:(Rows.askPricesRow.ifaces == (Tryz.f4.params.toList ++Rows.askPricesSpec.plain.varTypes Tryz.prog).any (Tryz.prog.ifacesRec ·))=true:=by kernel_rfl
theorem jf15:(Rows.askPricesRow.mapsOut == Tryz.prog.mapsAmong Tryz.f4.resultTypes.toList)=true:=by kernel_rfl
theorem jf16:(Rows.askPricesRow.loops == (Tryz.f4.params.toList ++Rows.askPricesSpec.plain.varTypes Tryz.prog).any (Tryz.prog.loopsFrom ·))=true:=by kernel_rfl
theorem jf17:(Rows.askPricesRow.wideKeys == (Tryz.f4.params.toList ++Rows.askPricesSpec.plain.varTypes Tryz.prog ++Tryz.f4.resultTypes.toList).any (Tryz.prog.wideKeysFrom ·))=true:=by kernel_rfl
theorem jf18:Rows.askPricesSpec.vars.all (Tryz.prog.varReadable ·)=true:=by kernel_rfl
theorem jf19:Tryz.f4.resultTypes.all (fun t=>Tryz.prog.readableRec t && decide (t<Tryz.prog.types.size))=true:=by kernel_rfl
theorem jf20:(Rows.askPricesRow.ifacesOut == Tryz.f4.resultTypes.toList.any (Tryz.prog.ifacesRec ·))=true:=by kernel_rfl
theorem jf21:(Rows.askPricesRow.loopsOut == Tryz.f4.resultTypes.toList.any (Tryz.prog.loopsFrom ·))=true:=by kernel_rfl
theorem jf22:(Rows.askPricesRow.plainKeys == Tryz.prog.plainKeys)=true:=by kernel_rfl
theorem jf23:Rows.askPricesRow.shortTexts.isNone=true:=by kernel_rfl
theorem jf24:Tryz.prog.stopsHeard=true:=by kernel_rfl
theorem jf25:Tryz.prog.mayEnter=true:=by kernel_rfl
theorem jf26:(Rows.askPricesRow.lifted == Tryz.prog.liftsFinal)=true:=by kernel_rfl
theorem jf27:(Tryz.prog.make == some Rows.askPricesRow.make)=true:=by kernel_rfl
theorem jf28:(Rows.askPricesRow.kinds == (if Rows.askPricesRow.domain.isEmpty then [] else Tryz.f4.params.toList.map fun t=>match Tryz.prog.underlying t with|some (.int k)=>some k|_=>none))=true:=by kernel_rfl
theorem jf29:(Rows.askPricesRow.pinned == Rows.askPricesRow.pinnedBy)=true:=by kernel_rfl
theorem jf30:(Rows.askPricesRow.veiled == (Tryz.f4.params.toList ++Rows.askPricesSpec.plain.varTypes Tryz.prog ++Tryz.f4.resultTypes.toList).any (Tryz.prog.veiledRec ·))=true:=by kernel_rfl
theorem jf31:Rows.askPricesRow.veiledFits Tryz.prog Tryz.f4.params.toList (Tryz.f4.params.toList ++Rows.askPricesSpec.plain.varTypes Tryz.prog ++Tryz.f4.resultTypes.toList)=true:=by kernel_rfl
set_option maxRecDepth 100000 in
theorem closed:joinedFacts Tryz.prog 4 Tryz.f4 Rows.askPricesSpec Rows.askPricesRow=true:=by
 simp only [joinedFacts,Bool.and_eq_true];exact ⟨⟨⟨⟨⟨⟨⟨⟨⟨⟨⟨⟨⟨⟨⟨⟨⟨⟨⟨⟨⟨⟨⟨⟨⟨⟨⟨⟨⟨⟨⟨jf0,jf1⟩,jf2⟩,jf3⟩,jf4⟩,jf5⟩,jf6⟩,jf7⟩,jf8⟩,jf9⟩,jf10⟩,jf11⟩,jf12⟩,jf13⟩,jf14⟩,jf15⟩,jf16⟩,jf17⟩,jf18⟩,jf19⟩,jf20⟩,jf21⟩,jf22⟩,jf23⟩,jf24⟩,jf25⟩,jf26⟩,jf27⟩,jf28⟩,jf29⟩,jf30⟩,jf31⟩
theorem named : Tryz.prog.funcNamed "roundsman/roundsmanlaw21.AskPrices" = some 4 := by kernel_rfl
theorem inst:Tryz.f4.isInstance Tryz.prog Rows.askPricesRow.origin Rows.askPricesRow.targs:=of_decide_eq_true (by kernel_rfl)
theorem wrap:Tryz.f4.isWrapper Tryz.prog Rows.askPricesRow.wrapper Rows.askPricesRow.mainSum:=by unfold Func.isWrapper;rw [if_neg (of_decide_eq_false (by kernel_rfl))];exact ⟨rfl,rfl⟩
theorem over:Rows.AskPricesSaid :=
 OpenClaim.holds_of_wide 4 Tryz.f4 rfl rfl rfl rfl rfl rfl rfl ⟨rfl,rfl,rfl,rfl,rfl⟩ rfl rfl rfl rfl rfl named Tryz.func4 closed inst wrap
  (fun os started H enc _=>lifted os started H enc)
theorem byText:Rows.askPricesRow.wfByText (OpenSpec.ofChange Rows.askPricesSpec)=true:=by kernel_rfl
theorem mainIs : Tryz.prog.mainIs = some (((true, "50a2035def9af4675d1cabe8bb01769292a43cd0b3e8ccc53597c94666fbfc99") : Bool × String).1, ((true, "50a2035def9af4675d1cabe8bb01769292a43cd0b3e8ccc53597c94666fbfc99") : Bool × String).2.toList) := by kernel_rfl
theorem looksL:true=Tryz.prog.looks []:=by kernel_rfl
theorem goes:false=Rows.askPricesRow.goesBy Tryz.prog:=by kernel_rfl
theorem proved:Rows.AskPricesCardSaid :=
 Claim7.holds_tied_plain_at .later [] [.handle] true (true, "50a2035def9af4675d1cabe8bb01769292a43cd0b3e8ccc53597c94666fbfc99") true
  over (fun _ h=>by cases h) byText (fun _ h=>by cases h) askPrices_row_tie rfl ⟨rfl,rfl⟩ mainIs rfl
  (fun f fn hf hfn=>by
   obtain rfl:f=4:=Option.some.inj (named.symm.trans hf) |>.symm
   obtain rfl:fn=Tryz.f4:=(Option.some.inj (Tryz.func4.symm.trans hfn)).symm
   exact ⟨looksL,fun j t ht=>by
    rw [Tryz.params4] at ht
    rcases j with _|_|_|_|_|_|j
    · obtain rfl:t=26:=by simpa using ht.symm
      exact (show Tryz.prog.wantsStandIn 26=false by kernel_rfl)
    · obtain rfl:t=29:=by simpa using ht.symm
      exact (show Tryz.prog.wantsStandIn 29=false by kernel_rfl)
    · obtain rfl:t=3:=by simpa using ht.symm
      exact (show Tryz.prog.wantsStandIn 3=false by kernel_rfl)
    · obtain rfl:t=3:=by simpa using ht.symm
      exact (show Tryz.prog.wantsStandIn 3=false by kernel_rfl)
    · obtain rfl:t=3:=by simpa using ht.symm
      exact (show Tryz.prog.wantsStandIn 3=false by kernel_rfl)
    · obtain rfl:t=58:=by simpa using ht.symm
      exact (show Tryz.prog.wantsStandIn 58=false by kernel_rfl)
    · simp at ht⟩)
  goes
#print axioms proved
end AskPricesDone
end Go.Proofs.YteaoiabikjnkeaaGreatDoor
