/- For every input MendPlays returns true, and its arguments read afterwards as before; package errors' variable errorType tied to the program's text. No condition. -/
import Derived.Test.YthoagdpakddbdaaGreatDoorL25
import Derived.ChangeArms
import Derived.Test.YthoagdpakddbdaaGreatDoorTie
import Derived.Test.YthoagdpakddbdaaGreatDoorCards
import Derived.Handed
import Derived.ChangeSame
import Derived.ChangeVars
import Derived.JoinedOf
import Derived.LaidLaws
import Derived.LaidHandle
import Derived.SevenTiedAt
namespace Go.Proofs.YthoagdpakddbdaaGreatDoor
open Go.ChangeShapes Go.WideShapes Go.ChangeAt Go.RowKit Go.Deep
theorem Qvq {α:Type}:∀ {l:List α},l.length=5→∃ a b c d e,l=[a,b,c,d,e]
 | [a,b,c,d,e],_=>⟨a,b,c,d,e,rfl⟩
section
variable {H:Type} {enc:TypeId×Value→H} {w:World} {base:Nat} {spare:Nat→Bool} {held:Bool}
theorem rel_chn (fuel:Nat)(cs:List Value)(x:DataW H×List MemPlace)(h:DataW.trod enc Tryz.prog w base spare held fuel 71 cs=some x):∃ p:Chn,cs=[.int .i64 p.1,.int .i64 p.2.1,.int .i64 p.2.2.1,.int .i64 p.2.2.2.1,.int .i64 p.2.2.2.2]:=by
 obtain ⟨xs,m,_,_,hcl,hxl,hi⟩:=DataW.trod_struct Tryz.underlying71 h;have hxl':xs.length=5:=hxl;have a0:DataW.trod enc Tryz.prog w base spare held m 3 ((cs.drop 0).take (Tryz.prog.cellsOf 3))=xs[0]?:=hi 0 _ rfl;have a1:DataW.trod enc Tryz.prog w base spare held m 3 ((cs.drop 1).take (Tryz.prog.cellsOf 3))=xs[1]?:=hi 1 _ rfl;have a2:DataW.trod enc Tryz.prog w base spare held m 3 ((cs.drop 2).take (Tryz.prog.cellsOf 3))=xs[2]?:=hi 2 _ rfl;have a3:DataW.trod enc Tryz.prog w base spare held m 3 ((cs.drop 3).take (Tryz.prog.cellsOf 3))=xs[3]?:=hi 3 _ rfl;have a4:DataW.trod enc Tryz.prog w base spare held m 2 ((cs.drop 4).take (Tryz.prog.cellsOf 2))=xs[4]?:=hi 4 _ rfl;rw [Zg (by omega)] at a0 a1 a2 a3 a4;obtain ⟨n0,e0,_⟩:=DataW.trod_int Tryz.underlying3 a0;obtain ⟨n1,e1,_⟩:=DataW.trod_int Tryz.underlying3 a1;obtain ⟨n2,e2,_⟩:=DataW.trod_int Tryz.underlying3 a2;obtain ⟨n3,e3,_⟩:=DataW.trod_int Tryz.underlying3 a3;obtain ⟨n4,e4,_⟩:=DataW.trod_int Tryz.underlying2 a4;rw [show Tryz.prog.cellsOf 71=5 by kernel_rfl] at hcl
 rw [show Tryz.prog.cellsOf 3=1 by kernel_rfl] at e0 e1 e2 e3
 rw [show Tryz.prog.cellsOf 2=1 by kernel_rfl] at e4
 clear a0 a1 a2 a3 a4 hi h;obtain ⟨c0,c1,c2,c3,c4,rfl⟩:=Qvq hcl;simp at e0 e1 e2 e3 e4;exact ⟨(n0,n1,n2,n3,n4),by simp [e0,e1,e2,e3,e4]⟩
theorem Qxr {A:Option Addr}{n c fuel:Nat}{x:DataW H×List MemPlace} (h:DataW.trod enc Tryz.prog w base spare held fuel 57 [.slice A n c]=some x) :
 ∃ l:List Chn,Qig w A n l∧n≤c∧c≤9223372036854775807:=by
 obtain ⟨l,hl,hnc,hcm,_,hr⟩:=Qdk Tryz.underlying57 (k:=5) (by kernel_rfl) (by omega) (fun cs (p:Chn)=>cs=[.int .i64 p.1,.int .i64 p.2.1,.int .i64 p.2.2.1,.int .i64 p.2.2.2.1,.int .i64 p.2.2.2.2]) rel_chn h;refine ⟨l,⟨hl,fun i p hp=>?_⟩,hnc,hcm⟩;obtain ⟨b,o,us,e5,rfl,_,hv⟩:=hr i p hp;exact ⟨b,o,e5,by have:=hv 0 _ rfl;simpa using this,hv 1 _ rfl,hv 2 _ rfl,hv 3 _ rfl,hv 4 _ rfl⟩
end
section
variable {H:Type} {enc:TypeId×Value→H} {w:World} {base:Nat} {spare:Nat→Bool} {held:Bool}
theorem rel_chl (fuel:Nat)(cs:List Value)(x:DataW H×List MemPlace)(h:DataW.trod enc Tryz.prog w base spare held fuel 57 cs=some x):∃ l:List Chn,∃ A n c,cs=[.slice A n c]∧Qig w A n l∧n≤c∧c≤9223372036854775807:=by
 obtain ⟨A,n,c,rfl⟩:=Qdb Tryz.underlying57 h;obtain ⟨l,h1,h2,h3⟩:=Qxr h;exact ⟨l,A,n,c,rfl,h1,h2,h3⟩
theorem Qzn {A:Option Addr}{n c fuel:Nat}{x:DataW H×List MemPlace} (h:DataW.trod enc Tryz.prog w base spare held fuel 53 [.slice A n c]=some x) :
 ∃ ls:List (List Chn),RdCs w A n ls∧n≤c∧c≤9223372036854775807:=by
 obtain ⟨ls,hl,hnc,hcm,_,hr⟩:=Qdk Tryz.underlying53 (k:=1) (by kernel_rfl) (by omega) (fun cs (l:List Chn)=>∃ A n c,cs=[.slice A n c]∧Qig w A n l∧n≤c∧c≤9223372036854775807) rel_chl h;refine ⟨ls,⟨hl,fun i l hi=>?_⟩,hnc,hcm⟩;obtain ⟨b,o,us,e5,⟨A',n',c',rfl,h1,h2,h3⟩,_,hv⟩:=hr i l hi;exact ⟨b,o,A',n',c',e5,by have:=hv 0 _ rfl;simpa using this,h1,h2,h3⟩
end
theorem et_ : Tryz.prog.globalNamed "errors.errorType" = some 0 := by kernel_rfl
theorem rt_ : (Tryz.prog.cutTypes.find? (·.1 == "internal/reflectlite.rtype")).map (·.2) = some 213 := by kernel_rfl
theorem oneRow_:((List.range 326).filter fun t=>Tryz.prog.rowNamed t [101,114,114,111,114])=[42]:=by kernel_rfl
theorem size_:Tryz.prog.types.size=326:=by kernel_rfl
theorem Qlg {W : World} (h : laidMetH Tryz.prog [("errors.errorType", Rows.laid_errors_errorType)] W) : W.cell? ⟨0, 0, none⟩ = some Qmv := by
 have h' : laidMet Tryz.prog [] W ∧ handlesMet Tryz.prog [("errors.errorType", Rows.laid_errors_errorType)] W := h
 obtain ⟨name,u,ty,e1,e2,e3,e4,e5⟩:=h'.2 _ (List.mem_singleton.2 rfl);have en:name=[101,114,114,111,114]:=(Yv e1).symm;subst en;obtain rfl:=Yv (rt_.symm.trans e2);have hm:ty∈(List.range 326).filter fun t=>Tryz.prog.rowNamed t [101,114,114,111,114]:=List.mem_filter.2 ⟨List.mem_range.2 (by rw [←size_];exact e3),e4⟩
 rw [oneRow_] at hm;obtain rfl:=List.mem_singleton.1 hm;have hh:typeHandle Tryz.prog 42=.pointer (some ⟨1,42,none⟩):=by kernel_rfl
 rw [hh] at e5;unfold Qmv
 simpa using World.var?_cell et_ e5 0
noncomputable def Qpq (os:Os):World :=
 let w0:=World.holding Tryz.prog os ⟨#[],#[],[]⟩
 { w0 with heap:=w0.heap.modify 0 fun
  | .cells _ t frozen=>.cells #[Qmv] t frozen
  | o=>o }
theorem Qna (os : Os) (args : Array Value) : laidMetH Tryz.prog [("errors.errorType", Rows.laid_errors_errorType)] ((Qpq os).forCall (fun _ _ => 0) ⟨#[], args, []⟩).memory :=
 laidMetH_of_parts (laidMet_nil _ _) (by kernel_rfl)
namespace MendPlaysDone
set_option maxRecDepth 100000 in
theorem lifted (os:Os)(started:os.Started)(H:Type)(enc:TypeId×Value→H) :
 ReturnsInHanded {} Tryz.checked os 4 .any (fun w args => (Rows.mendPlaysSpec.pre enc Tryz.prog Tryz.f4 [] false w args ∧ laidMetH Tryz.prog [("errors.errorType", Rows.laid_errors_errorType)] w) ∧ sizedMet enc Tryz.prog Tryz.f4 (OpenSpec.ofChange Rows.mendPlaysSpec) false w args)
  (Rows.mendPlaysSpec.post enc Tryz.prog Tryz.f4 false true false false):=by
 refine returnsInHanded_of_change_and (C := Tryz.checked) (X := fun w _ => laidMetH Tryz.prog [("errors.errorType", Rows.laid_errors_errorType)] w) (fun _ _ _ hh h => h.of_heap hh) own_ started (by kernel_rfl) Tryz.func4
  (ChangeSpec.witness_at (enc := enc) (C := Tryz.checked) (os := os) (X := fun w _ => laidMetH Tryz.prog [("errors.errorType", Rows.laid_errors_errorType)] w) false (Qpq os) #[.agg #[.slice none 0 0, .slice none 0 0, .slice none 0 0], .agg #[.slice none 0 0], .slice none 0 0] 8 rfl (by kernel_rfl) (by kernel_rfl) (by kernel_rfl) (by kernel_rfl) (by kernel_rfl) (Qna os _)) ?_
 intro W base args ds gs before hval0 hW _ hsz0 hL _;clear hsz0;have hval:∀ (j:Nat) t v,Tryz.f4.params[j]?=some t→args[j]?=some v→Value.okWide Tryz.prog W .any base t v:=hval0;have hW':=hW;obtain ⟨p,q,hA0,hV,rfl,hfz,hnd⟩:=hW;have hA:DataW.TrodAll enc Tryz.prog W 0 (fun _=>true) true Tryz.f4.params.toList args.toList ds p:=hA0;rw [Tryz.params4] at hA hval;obtain ⟨v0,vs0,d0,ds0,p0,q0,hargs,rfl,rfl,h0,r0⟩:=trodAll_cons hA;obtain ⟨v1,vs1,d1,ds1,p1,q1,rfl,rfl,rfl,h1,r1⟩:=trodAll_cons r0;obtain ⟨v2,vs2,d2,ds2,p2,q2,rfl,rfl,rfl,h2,r2⟩:=trodAll_cons r1;obtain ⟨rfl,rfl,rfl⟩:=trodAll_nil r2;obtain rfl:args=#[v0,v1,v2]:=by cases args;simp_all
 obtain ⟨rfl,rfl⟩:=trodVars_none hV;obtain ⟨cs0,rfl,_⟩:=okWide_struct Tryz.underlying26 (hval 0 26 v0 rfl rfl);have k0:=h0;have lt0:∀ x∈p0,x.block<W.heap.size:=by obtain ⟨m,hm⟩:=k0;exact DataW.trod_lt m _ _ _ hm
 obtain ⟨A,B,C,n,m,k,c,d,e,N,hcs0,hnet,hk⟩:∃ (A B C:Option Addr) (n m k c d e:Nat) (N:Qai),cs0=#[.slice A n c,.slice B m d,.slice C k e]∧Qbc W A B C n m k N∧k≤9223372036854775807:=by
  obtain ⟨fuel,hf⟩:=h0;obtain ⟨A,B,C,n,m,k,c,d,e,N,e1,e2,e3⟩:=open_net hf;exact ⟨A,B,C,n,m,k,c,d,e,N,Array.toList_inj.1 e1,e2,e3⟩
 subst hcs0;obtain ⟨cs1,rfl,_⟩:=okWide_struct Tryz.underlying29 (hval 1 29 v1 rfl rfl);have k1:=h1;have lt1:∀ x∈p1,x.block<W.heap.size:=by obtain ⟨m,hm⟩:=k1;exact DataW.trod_lt m _ _ _ hm
 obtain ⟨Q,L,cq,ls,hcs1,hpart,hLc⟩:∃ (Q:Option Addr) (L cq:Nat) (ls:List (List Int)),cs1=#[.slice Q L cq]∧RdT W Q L ls∧L≤9223372036854775807:=by
  obtain ⟨fuel,hf⟩:=h1;obtain ⟨Q,L,cq,ls,e1,e2,e3,e4⟩:=Qyf hf;exact ⟨Q,L,cq,ls,Array.toList_inj.1 e1,e2,by omega⟩
 subst hcs1;obtain ⟨a2,len2,cap2,rfl⟩:=okWide_slice Tryz.underlying53 (hval 2 53 v2 rfl rfl);have k2:=h2;have lt2:∀ x∈p2,x.block<W.heap.size:=by obtain ⟨m,hm⟩:=k2;exact DataW.trod_lt m _ _ _ hm
 obtain ⟨ac,hac,hlac⟩:∃ ac:List (List Chn),RdCs W a2 len2 ac∧len2≤cap2∧cap2≤9223372036854775807:=by
  obtain ⟨fuel,hf⟩:=h2;obtain ⟨l,h1,h2,h3⟩:=Qzn hf;exact ⟨l,h1,h2,h3⟩
 clear hA0 hval0;have hg:=Qlg hL;refine (Qlq A B C Q n m k c d e L cq N ls a2 len2 cap2 ac W hnet hk hpart hLc hac hlac hg).mono fun e W' ⟨he,bel⟩=>?_
 subst he;exact ⟨_,rfl,_,_,_,[],_,[],hW',trodAll_mk1 (shut_bool Tryz.underlying4 _),(trodAll_cons_mk (Below.trod Qnn (by kernel_rfl) (of_decide_eq_true (by kernel_rfl)) k0 bel lt0) (trodAll_cons_mk (Below.trod Qnn (by kernel_rfl) (of_decide_eq_true (by kernel_rfl)) k1 bel lt1) (trodAll_cons_mk (Below.trod Qnn (by kernel_rfl) (of_decide_eq_true (by kernel_rfl)) k2 bel lt2) trodAll_mk0))),rfl,bel.frame _,fun h=>by cases h⟩
theorem jf0:Rows.mendPlaysRow.wf (OpenSpec.ofChange Rows.mendPlaysSpec)=true:=by kernel_rfl
theorem jf1:laidOutB Tryz.prog=true:=by kernel_rfl
theorem jf2:mapsRowed Tryz.prog=true:=by kernel_rfl
theorem jf3:Tryz.f4.params.all (Tryz.prog.readableRec ·)=true:=by kernel_rfl
theorem jf4:namedTie Tryz.prog Rows.mendPlaysRow.named Rows.mendPlaysSpec.vars=true:=by kernel_rfl
theorem jf5:(Rows.mendPlaysRow.stops == [])=true:=by kernel_rfl
theorem jf6:(Tryz.prog.stops == [])=true:=by kernel_rfl
theorem jf7:(Rows.mendPlaysRow.knobs == [])=true:=by kernel_rfl
theorem jf8:(Tryz.prog.stopKnobs == [])=true:=by kernel_rfl
theorem jf9:(Rows.mendPlaysRow.inPlace == Tryz.prog.inPlace 4)=true:=by kernel_rfl
theorem jf10:(Rows.mendPlaysRow.unfollowed == Tryz.prog.unfollowed 4)=true:=by kernel_rfl
theorem jf11:(Rows.mendPlaysRow.recurses == Tryz.prog.recurses 4)=true:=by kernel_rfl
theorem jf12:(Rows.mendPlaysRow.named == Tryz.prog.varsNamed 4)=true:=by kernel_rfl
theorem jf13:(Rows.mendPlaysRow.maps == (Tryz.f4.params.toList ++Rows.mendPlaysSpec.plain.varTypes Tryz.prog).any (Tryz.prog.mapsRec ·))=true:=by kernel_rfl
theorem jf14:(Rows.mendPlaysRow.ifaces == (Tryz.f4.params.toList ++Rows.mendPlaysSpec.plain.varTypes Tryz.prog).any (Tryz.prog.ifacesRec ·))=true:=by kernel_rfl
theorem jf15:(Rows.mendPlaysRow.mapsOut == Tryz.prog.mapsAmong Tryz.f4.resultTypes.toList)=true:=by kernel_rfl
theorem jf16:(Rows.mendPlaysRow.loops == (Tryz.f4.params.toList ++Rows.mendPlaysSpec.plain.varTypes Tryz.prog).any (Tryz.prog.loopsFrom ·))=true:=by kernel_rfl
theorem jf17:(Rows.mendPlaysRow.wideKeys == (Tryz.f4.params.toList ++Rows.mendPlaysSpec.plain.varTypes Tryz.prog ++Tryz.f4.resultTypes.toList).any (Tryz.prog.wideKeysFrom ·))=true:=by kernel_rfl
theorem jf18:Rows.mendPlaysSpec.vars.all (Tryz.prog.varReadable ·)=true:=by kernel_rfl
theorem jf19:Tryz.f4.resultTypes.all (fun t=>Tryz.prog.readableRec t && decide (t<Tryz.prog.types.size))=true:=by kernel_rfl
theorem jf20:(Rows.mendPlaysRow.ifacesOut == Tryz.f4.resultTypes.toList.any (Tryz.prog.ifacesRec ·))=true:=by kernel_rfl
theorem jf21:(Rows.mendPlaysRow.loopsOut == Tryz.f4.resultTypes.toList.any (Tryz.prog.loopsFrom ·))=true:=by kernel_rfl
theorem jf22:(Rows.mendPlaysRow.plainKeys == Tryz.prog.plainKeys)=true:=by kernel_rfl
theorem jf23:Rows.mendPlaysRow.shortTexts.isNone=true:=by kernel_rfl
theorem jf24:Tryz.prog.stopsHeard=true:=by kernel_rfl
theorem jf25:Tryz.prog.mayEnter=true:=by kernel_rfl
theorem jf26:(Rows.mendPlaysRow.lifted == Tryz.prog.liftsFinal)=true:=by kernel_rfl
theorem jf27:(Tryz.prog.make == some Rows.mendPlaysRow.make)=true:=by kernel_rfl
theorem jf28:(Rows.mendPlaysRow.kinds == (if Rows.mendPlaysRow.domain.isEmpty then [] else Tryz.f4.params.toList.map fun t=>match Tryz.prog.underlying t with|some (.int k)=>some k|_=>none))=true:=by kernel_rfl
theorem jf29:(Rows.mendPlaysRow.pinned == Rows.mendPlaysRow.pinnedBy)=true:=by kernel_rfl
theorem jf30:(Rows.mendPlaysRow.veiled == (Tryz.f4.params.toList ++Rows.mendPlaysSpec.plain.varTypes Tryz.prog ++Tryz.f4.resultTypes.toList).any (Tryz.prog.veiledRec ·))=true:=by kernel_rfl
theorem jf31:Rows.mendPlaysRow.veiledFits Tryz.prog Tryz.f4.params.toList (Tryz.f4.params.toList ++Rows.mendPlaysSpec.plain.varTypes Tryz.prog ++Tryz.f4.resultTypes.toList)=true:=by kernel_rfl
set_option maxRecDepth 100000 in
theorem closed:joinedFacts Tryz.prog 4 Tryz.f4 Rows.mendPlaysSpec Rows.mendPlaysRow=true:=by
 simp only [joinedFacts,Bool.and_eq_true];exact ⟨⟨⟨⟨⟨⟨⟨⟨⟨⟨⟨⟨⟨⟨⟨⟨⟨⟨⟨⟨⟨⟨⟨⟨⟨⟨⟨⟨⟨⟨⟨jf0,jf1⟩,jf2⟩,jf3⟩,jf4⟩,jf5⟩,jf6⟩,jf7⟩,jf8⟩,jf9⟩,jf10⟩,jf11⟩,jf12⟩,jf13⟩,jf14⟩,jf15⟩,jf16⟩,jf17⟩,jf18⟩,jf19⟩,jf20⟩,jf21⟩,jf22⟩,jf23⟩,jf24⟩,jf25⟩,jf26⟩,jf27⟩,jf28⟩,jf29⟩,jf30⟩,jf31⟩
theorem named : Tryz.prog.funcNamed "roundsman/roundsmanlaw20.MendPlays" = some 4 := by kernel_rfl
theorem inst:Tryz.f4.isInstance Tryz.prog Rows.mendPlaysRow.origin Rows.mendPlaysRow.targs:=of_decide_eq_true (by kernel_rfl)
theorem wrap:Tryz.f4.isWrapper Tryz.prog Rows.mendPlaysRow.wrapper Rows.mendPlaysRow.mainSum:=by unfold Func.isWrapper;rw [if_neg (of_decide_eq_false (by kernel_rfl))];exact ⟨rfl,rfl⟩
theorem over:Rows.MendPlaysSaid :=
 OpenClaim.holds_of_wide 4 Tryz.f4 rfl rfl rfl rfl rfl rfl rfl ⟨rfl,rfl,rfl,rfl,rfl⟩ rfl rfl rfl rfl rfl named Tryz.func4 closed inst wrap
  (fun os started H enc _=>lifted os started H enc)
theorem byText:Rows.mendPlaysRow.wfByText (OpenSpec.ofChange Rows.mendPlaysSpec)=true:=by kernel_rfl
theorem mainIs : Tryz.prog.mainIs = some (((true, "c61748c2e54d6490013d0fbe206834b53a8f4fa6dfde03158dfa1de7149a82b2") : Bool × String).1, ((true, "c61748c2e54d6490013d0fbe206834b53a8f4fa6dfde03158dfa1de7149a82b2") : Bool × String).2.toList) := by kernel_rfl
theorem looksL:true=Tryz.prog.looks []:=by kernel_rfl
theorem goes:false=Rows.mendPlaysRow.goesBy Tryz.prog:=by kernel_rfl
theorem proved:Rows.MendPlaysCardSaid :=
 Claim7.holds_tied_plain_at .later [] [.handle] true (true, "c61748c2e54d6490013d0fbe206834b53a8f4fa6dfde03158dfa1de7149a82b2") true
  over (fun _ h=>by cases h) byText (fun _ h=>by cases h) mendPlays_row_tie rfl ⟨rfl,rfl⟩ mainIs rfl
  (fun f fn hf hfn=>by
   obtain rfl:f=4:=Yv (named.symm.trans hf) |>.symm
   obtain rfl:fn=Tryz.f4:=(Yv (Tryz.func4.symm.trans hfn)).symm
   exact ⟨looksL,fun j t ht=>by
    rw [Tryz.params4] at ht
    rcases j with _|_|_|j
    · obtain rfl:t=26:=by simpa using ht.symm
      exact (show Tryz.prog.wantsStandIn 26=false by kernel_rfl)
    · obtain rfl:t=29:=by simpa using ht.symm
      exact (show Tryz.prog.wantsStandIn 29=false by kernel_rfl)
    · obtain rfl:t=53:=by simpa using ht.symm
      exact (show Tryz.prog.wantsStandIn 53=false by kernel_rfl)
    · simp at ht⟩)
  goes
#print axioms proved
end MendPlaysDone
end Go.Proofs.YthoagdpakddbdaaGreatDoor
