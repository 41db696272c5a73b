/- For every input PlanModels returns true, and its arguments read afterwards as before; package errors' variable errorType tied to the program's text. No condition. -/
/- Qbl of the proof: LwM, LwMP. -/
import Derived.Test.YtkaaakbejnlbgaaGreatDoorD30
import Derived.Test.YtkaaakbejnlbgaaGreatDoorD32
set_option maxHeartbeats 4000000
set_option maxRecDepth 100000
namespace Go.Proofs.YtkaaakbejnlbgaaGreatDoor
open Go.RowKit Go.Extern.Stop Go.Stop Go.Extern Go.Proofs.Tryz
attribute [local go_sem ↓] Go.wp_at_zero Go.wp_at_succ
theorem Rhy {P:Program}{w:World}{ops:Array Oper}{o:Oper}{a:Act}{K:Act→World→Prop}{Q:Exit→Act→World→Prop}{E:Prop}(d:Option Tmp)(hd:o.dst=d) (hgd:Region.wanted o (yielded ops a.tmps)=true) (s x:Operand) (t:TypeId)
 (ho:o.op=.call { callee:=.builtin .append,args:=#[s,x],argTypes:=#[t,t] })
 (e:TypeId) (z:Value) (sz by_:Nat) (hinfo:(P.info? e).map (fun i=>(i.zero,i.size,i.bytes))=some (some z,sz,by_)) (ht:P.underlying t=some (.slice e)) (hzs:z.cells.size=sz) (hs0:0<sz)
 {B n c m c2:Nat} {A X:Oz} {xs news:List Value} (hs:a.eval s=.slice A n c) (hx:a.eval x=.slice X m c2)
 (hown:Own w B e sz A n c xs) (hr:Rds w sz X m news) (h1:∀ u∈news,u.oneCell'=true) (hn:(n+m)*by_≤140737488355328) (hnm:n+m≤9223372036854775807) (hB:B≤w.heap.size)
 (h:∀ A' c' w',Own w' B e sz A' (n+m) c' (xs ++news)→w.grownBy w' (Qaa A)→(Qaa A'=Qaa A∨Qaa A'=some w.heap.size)→K (a.put d (.slice A' (n+m) c')) w') :
 if Region.wanted o (yielded ops a.tmps)=true then Oper.wp P o a w K Q else E:=by subst hd;rw [if_pos hgd];exact Rim s x t ho e z sz by_ hinfo ht hzs hs0 hs hx hown hr h1 hn hnm hB h
theorem Qpl.rows {N:Qak}{pts:Iz} {ls:Lz} (h:Qpl N pts ls) (hn:pts.length≤1000000):∀ r∈ls,r.length≤1000000:=fun r hr=>by obtain ⟨i,hi⟩:=Yr hr;obtain ⟨r',h1,h2⟩:=h.2 i _ (Zg (by rw [←h.1];exact (Zs hi).1));rw [hi] at h1;cases h1;rw [h2.1];exact hn
theorem Qol (A B C:Oz)(n m k c d e:Nat)(N:Qak)(TA:Oz)(nt ct:Nat)(tl:Iz)(w:World)(h:Qcp w A B C n m k N)(hk:k≤9223372036854775807)(ht:RdI w TA nt tl)(_:nt≤4000000000000000000)(hg:w.cell? ⟨0,0,none⟩=some Qpm) :
 Calls prog 5 #[.agg #[.slice A n c,.slice B m d,.slice C k e],.slice TA nt ct] w fun r w'=>r=.returned (.bool true)∧Bw w w':=by
 have HTL:=Zh ht;have HTN:=Zh ht.1;have HH:=Zh h;have HG:=Zh hg;clear h ht hg;go_enter func5,ntmps5
 go_wp2_with fail
 (refine Qab ?_;intro w1 hw1);have hb1:Bw w w1:=by rw [hw1];exact Qag
 have hX:Blk w1 w.heap.size 26 #[.slice A n c,.slice B m d,.slice C k e]:=by rw [hw1];exact Qbi
 clear hw1;with_reducible refine (Qib w1 (Zc hb1 (Zn _) HG.o)).mono ?_
 rintro r w2 ⟨rfl,hb2⟩;have hX2:=hX.below hb2 hX.lt;have hb2':=Zb hb1 hb2;clear hX hb1 hb2;obtain ⟨x0,x1,x2⟩:=hX2.three;go_wp2_with fail
 with_reducible refine (Qox A B C n m k c d e N w2 (HH.o.below hb2') hk).mono ?_
 rintro r w3 ⟨hr,hb3⟩;have hb3':=Zb hb2' hb3;have hX3:=hX2.below hb3 hX2.lt;clear x0 x1 x2 hX2 hb2' hb3;obtain ⟨b,rfl,hGG⟩:=hr
 cases b with
 | false =>
  clear hGG;go_wp2_with fail
  go_ret;exact ⟨rfl,hb3'⟩
 | true =>
 have hok:=(hGG rfl).ok;clear hGG;by_cases h20:20<nt
 {(have i20:20<(nt:Int):=Oo);(go_wp2_with fail);go_ret;exact ⟨rfl,hb3'⟩};have i20:¬20<(nt:Int):=Oo
 obtain ⟨x0,x1,x2⟩:=hX3.three;go_wp2_with fail
 with_reducible refine (Qms A B C n m k c d e N w3 (HH.o.below hb3') hok).mono ?_
 rintro r w4 ⟨g,rfl,hG4,hb4⟩;have HG4:=Zh hG4.rd;have HX4:=Zh (hX3.below hb4 hX3.lt);have HB4:=Zh (Zb hb3' hb4);have HOK:=Zh hok;clear x0 x1 x2 hb4 hG4 hX3 hb3' hok i20;have HSX:=Zh (show ∀ V,Bw w4 V→V.cell? ⟨w.heap.size,0,none⟩=some (.slice A n c)∧V.cell? ⟨w.heap.size,1,none⟩=some (.slice B m d)∧V.cell? ⟨w.heap.size,2,none⟩=some (.slice C k e) from fun V hV=>(HX4.o.below hV HX4.o.lt).three);obtain ⟨W2,hW2⟩:=Zx ((w4.alloc (.cells #[] 3)).drew);have hb2:Bw w4 W2:=by rw [hW2];exact Qag
 have hown:Own W2 w4.heap.size 3 1 (some ⟨w4.heap.size,0,none⟩) 0 0 []:=by rw [hW2];exact (lit0 (Zn _)).drew
 have hrd:Rds W2 1 TA nt (Qae tl):=(HTL.o.below (Zb HB4.o hb2)).rdsI;have hsz:w4.heap.size≤W2.heap.size:=hb2.size;have HW2:=Zh hW2;have HB2:=Zh hb2;clear hW2 hb2;go_wp2_with fail
 refine wp_region_held_drew (S:=fun V=>Bw w4 V) Kf (Zr _ _).drew (fun _=>?_);refine tzd 0 18 ?_;refine tz 5 23 ?_;refine tzb 8 26 ?_;refine Zk 4 (fun K hK=>?_);go_simp;rw [←HW2.o];refine hK.out _ _ HB2.o (fun _=>?_);clear hK K;refine Zk 6 (fun K hK=>?_);with_reducible refine Rhy (some 24) rfl (by with_unfolding_all rfl) (.tmp 22) (.tmp 23) 64 rfl 3 _ 1 8 Qbm underlying64 rfl Oo rfl rfl hown hrd (Qaq _) Oo Oo hsz ?_
 intro A3 c3 w8 ho8 hg8 hat8;have hb8:=Zo HB2.o hg8 hown hsz;refine hK.out _ _ hb8 (fun _=>?_);clear hK K;simp only [Act.put,Yi,Yj,Yk];have HO8:=Zh (show RdI w8 A3 nt tl from by have h:=ho8.rds.rdI;simpa using h);have HB8:=Zh hb8;clear hown hrd hsz ho8 hg8 hb8 hat8;refine Zk 7 (fun K hK=>?_);go_simp;with_reducible refine (Qfd w8 g N A3 nt c3 tl (HG4.o.below HB8.o) HOK.o HO8.o Oo).mono ?_
 unfold MdlP;rintro r w9 ⟨⟨tb,ls,rfl,hrt,hmt⟩,hb9⟩;have HB9:=Zh (Zb HB8.o hb9);have HRT:=Zh hrt;have HMT:=Zh hmt;clear hrt hmt hb9;go_simp;refine hK.out _ _ HB9.o (fun _=>?_);clear hK K;refine Zk 10 (fun K hK=>?_);go_simp;with_reducible refine (Qjh A B C TA n m k c d e nt ct N tl w9 (HH.o.below (Zb HB4.o HB9.o)) HOK.o (HTL.o.below (Zb HB4.o HB9.o)) Oo).mono ?_
 unfold RmlP;rintro r w10 ⟨⟨A10,c10,ls2,rfl,hrt2,hmt2⟩,hb10⟩;have HBA:=Zh (Zb HB9.o hb10);have HRA:=Zh (HRT.o.below hb10);obtain rfl:=hmt2.uniq HMT.o;have HRB:=Zh hrt2;clear hrt2 hmt2 hb10;go_simp;refine hK.out _ _ HBA.o (fun _=>?_);clear hK K;refine Zk 11 (fun K hK=>?_);go_simp;have hst:=Qmd (some ⟨tb,0,none⟩) A10 nt nt nt c10 _ _ w10 HRA.o HRB.o Oo Oo (HMT.o.rows (by rw [HTN.o];omega)) (HMT.o.rows (by rw [HTN.o];omega));rw [decide_eq_true rfl] at hst;with_reducible refine hst.mono ?_
 rintro r w11 ⟨rfl,hb11⟩;have HBB:=Zh (Zb HBA.o hb11);clear hst hb11;go_simp;refine hK.out _ _ HBB.o (fun _=>?_);clear hK K;refine tz 12 30 ?_;refine tz 13 4 ?_;refine Zd ?_;clear HSX;go_wp2_with fail
 go_ret;exact ⟨rfl,Zb HB4.o HBB.o⟩
end Go.Proofs.YtkaaakbejnlbgaaGreatDoor
namespace Go.Proofs.YtkaaakbejnlbgaaGreatDoor
open Go.ChangeShapes Go.WideShapes Go.ChangeAt Go.RowKit Go.Deep
namespace PlanModelsDone
theorem lifted (os:Os)(started:os.Started)(H:Type)(enc:TypeId×Value→H) :
 ReturnsInHanded {} Tryz.checked os 5 .any (fun w args => (Rows.planModelsSpec.pre enc Tryz.prog Tryz.f5 [] false w args ∧ laidMetH Tryz.prog [("errors.errorType", Rows.laid_errors_errorType)] w) ∧ sizedMet enc Tryz.prog Tryz.f5 (OpenSpec.ofChange Rows.planModelsSpec) false w args)
  (Rows.planModelsSpec.post enc Tryz.prog Tryz.f5 false true false false):=by
 refine returnsInHanded_of_change_and (C := Tryz.checked) (X := fun w _ => laidMetH Tryz.prog [("errors.errorType", Rows.laid_errors_errorType)] w) (fun _ _ _ hh h => h.of_heap hh) own_ started (by kernel_rfl) Tryz.func5
  (ChangeSpec.witness_at (enc := enc) (C := Tryz.checked) (os := os) (X := fun w _ => laidMetH Tryz.prog [("errors.errorType", Rows.laid_errors_errorType)] w) false (Qhl os) #[.agg #[.slice none 0 0, .slice none 0 0, .slice none 0 0], .slice none 0 0] 8 rfl (by kernel_rfl) (by kernel_rfl) (by kernel_rfl) (by kernel_rfl) (by kernel_rfl) (Qek os _)) ?_
 intro W base args ds gs before hval0 hW _ hsz0 hL _;have hsz:(DataW.weightsEach Tryz.prog (Tryz.f5.params.toList ++Rows.planModelsSpec.plain.varTypes Tryz.prog) (ds ++gs)).all (·≤reachBytes)=true:=hsz0;clear hsz0;have hval:∀ (j:Nat) t v,Tryz.f5.params[j]?=some t→args[j]?=some v→Value.okWide Tryz.prog W .any base t v:=hval0;have hW':=hW;obtain ⟨p,q,hA0,hV,rfl,hfz,hnd⟩:=hW;have hA:DataW.TrodAll enc Tryz.prog W 0 (fun _=>true) true Tryz.f5.params.toList args.toList ds p:=hA0;rw [Tryz.params5] at hA hval hsz;obtain ⟨v0,vs0,d0,ds0,p0,q0,hargs,rfl,rfl,h0,r0⟩:=trodAll_cons hA;obtain ⟨v1,vs1,d1,ds1,p1,q1,rfl,rfl,rfl,h1,r1⟩:=trodAll_cons r0;obtain ⟨rfl,rfl,rfl⟩:=trodAll_nil r1;obtain rfl:args=#[v0,v1]:=by cases args;simp_all
 obtain ⟨rfl,rfl⟩:=trodVars_none hV;obtain ⟨cs0,rfl,_⟩:=okWide_struct Tryz.underlying26 (hval 0 26 v0 rfl rfl);have k0:=h0;have lt0:∀ x∈p0,x.block<W.heap.size:=by obtain ⟨m,hm⟩:=k0;exact DataW.trod_lt m _ _ _ hm
 obtain ⟨A,B,C,n,m,k,c,d,e,N,hcs0,hnet,hk⟩:∃ (A B C:Option Addr) (n m k c d e:Nat) (N:Qak),cs0=#[.slice A n c,.slice B m d,.slice C k e]∧Qcp W A B C n m k N∧k≤9223372036854775807:=by{exact Kav};subst hcs0;obtain ⟨a1,len1,cap1,rfl⟩:=okWide_slice Tryz.underlying64 (hval 1 64 v1 rfl rfl);have k1:=h1;have lt1:∀ x∈p1,x.block<W.heap.size:=by obtain ⟨m,hm⟩:=k1;exact DataW.trod_lt m _ _ _ hm
 obtain ⟨l1,hl1,hb1,hwf1⟩:∃ l:List Int,RdI W a1 len1 l∧len1≤4000000000000000000∧∀ a∈l,(Lit.int .i64 a).wf=true:=by
  obtain ⟨fuel,hf⟩:=h1;obtain ⟨l,hl,_,_,hs,hwf⟩:=Qlf Tryz.underlying64 Tryz.underlying3 (by kernel_rfl) hf;refine ⟨l,hl,?_,hwf⟩;rcases hs with h|⟨el,sp,hx,hel⟩
  {omega};{have:=sized_slice hsz (j:=1) (t:=64) (e:=3) (elems:=el) (spare:=sp) rfl (by simpa using hx) Tryz.underlying64;rw [show Tryz.prog.bytesOf 3=8 by kernel_rfl] at this;simp only [reachBytes] at this;omega}
 clear hA0 hval0;have hg:=Qdv hL;refine (Qol A B C n m k c d e N a1 len1 cap1 l1 W hnet hk hl1 hb1 hg).mono fun e W' ⟨he,bel⟩=>?_
 subst he;exact ⟨_,rfl,_,_,_,[],_,[],hW',trodAll_mk1 (shut_bool Tryz.underlying4 _),(trodAll_cons_mk (Below.trod Qdl (by kernel_rfl) (of_decide_eq_true (by kernel_rfl)) k0 bel lt0) (trodAll_cons_mk (Below.trod Qdl (by kernel_rfl) (of_decide_eq_true (by kernel_rfl)) k1 bel lt1) trodAll_mk0)),rfl,bel.frame _,fun h=>by cases h⟩
theorem jf0:Rows.planModelsRow.wf (OpenSpec.ofChange Rows.planModelsSpec)=true:=by kernel_rfl
theorem jf1:laidOutB Tryz.prog=true:=by kernel_rfl
theorem jf2:mapsRowed Tryz.prog=true:=by kernel_rfl
theorem jf3:Tryz.f5.params.all (Tryz.prog.readableRec ·)=true:=by kernel_rfl
theorem jf4:namedTie Tryz.prog Rows.planModelsRow.named Rows.planModelsSpec.vars=true:=by kernel_rfl
theorem jf5:(Rows.planModelsRow.stops == [])=true:=by kernel_rfl
theorem jf6:(Tryz.prog.stops == [])=true:=by kernel_rfl
theorem jf7:(Rows.planModelsRow.knobs == [])=true:=by kernel_rfl
theorem jf8:(Tryz.prog.stopKnobs == [])=true:=by kernel_rfl
theorem jf9:(Rows.planModelsRow.inPlace == Tryz.prog.inPlace 5)=true:=by kernel_rfl
theorem jf10:(Rows.planModelsRow.unfollowed == Tryz.prog.unfollowed 5)=true:=by kernel_rfl
theorem jf11:(Rows.planModelsRow.recurses == Tryz.prog.recurses 5)=true:=by kernel_rfl
theorem jf12:(Rows.planModelsRow.named == Tryz.prog.varsNamed 5)=true:=by kernel_rfl
theorem jf13:(Rows.planModelsRow.maps == (Tryz.f5.params.toList ++Rows.planModelsSpec.plain.varTypes Tryz.prog).any (Tryz.prog.mapsRec ·))=true:=by kernel_rfl
theorem jf14:(Rows.planModelsRow.ifaces == (Tryz.f5.params.toList ++Rows.planModelsSpec.plain.varTypes Tryz.prog).any (Tryz.prog.ifacesRec ·))=true:=by kernel_rfl
theorem jf15:(Rows.planModelsRow.mapsOut == Tryz.prog.mapsAmong Tryz.f5.resultTypes.toList)=true:=by kernel_rfl
theorem jf16:(Rows.planModelsRow.loops == (Tryz.f5.params.toList ++Rows.planModelsSpec.plain.varTypes Tryz.prog).any (Tryz.prog.loopsFrom ·))=true:=by kernel_rfl
theorem jf17:(Rows.planModelsRow.wideKeys == (Tryz.f5.params.toList ++Rows.planModelsSpec.plain.varTypes Tryz.prog ++Tryz.f5.resultTypes.toList).any (Tryz.prog.wideKeysFrom ·))=true:=by kernel_rfl
theorem jf18:Rows.planModelsSpec.vars.all (Tryz.prog.varReadable ·)=true:=by kernel_rfl
theorem jf19:Tryz.f5.resultTypes.all (fun t=>Tryz.prog.readableRec t && decide (t<Tryz.prog.types.size))=true:=by kernel_rfl
theorem jf20:(Rows.planModelsRow.ifacesOut == Tryz.f5.resultTypes.toList.any (Tryz.prog.ifacesRec ·))=true:=by kernel_rfl
theorem jf21:(Rows.planModelsRow.loopsOut == Tryz.f5.resultTypes.toList.any (Tryz.prog.loopsFrom ·))=true:=by kernel_rfl
theorem jf22:(Rows.planModelsRow.plainKeys == Tryz.prog.plainKeys)=true:=by kernel_rfl
theorem jf23:Rows.planModelsRow.shortTexts.isNone=true:=by kernel_rfl
theorem jf24:Tryz.prog.stopsHeard=true:=by kernel_rfl
theorem jf25:Tryz.prog.mayEnter=true:=by kernel_rfl
theorem jf26:(Rows.planModelsRow.lifted == Tryz.prog.liftsFinal)=true:=by kernel_rfl
theorem jf27:(Tryz.prog.make == some Rows.planModelsRow.make)=true:=by kernel_rfl
theorem jf28:(Rows.planModelsRow.kinds == (if Rows.planModelsRow.domain.isEmpty then [] else Tryz.f5.params.toList.map fun t=>match Tryz.prog.underlying t with|some (.int k)=>some k|_=>none))=true:=by kernel_rfl
theorem jf29:(Rows.planModelsRow.pinned == Rows.planModelsRow.pinnedBy)=true:=by kernel_rfl
theorem jf30:(Rows.planModelsRow.veiled == (Tryz.f5.params.toList ++Rows.planModelsSpec.plain.varTypes Tryz.prog ++Tryz.f5.resultTypes.toList).any (Tryz.prog.veiledRec ·))=true:=by kernel_rfl
theorem jf31:Rows.planModelsRow.veiledFits Tryz.prog Tryz.f5.params.toList (Tryz.f5.params.toList ++Rows.planModelsSpec.plain.varTypes Tryz.prog ++Tryz.f5.resultTypes.toList)=true:=by kernel_rfl
theorem closed:joinedFacts Tryz.prog 5 Tryz.f5 Rows.planModelsSpec Rows.planModelsRow=true:=by exact Kak
theorem named : Tryz.prog.funcNamed "roundsman/roundsmanlaw27.PlanModels" = some 5 := by kernel_rfl
theorem inst:Tryz.f5.isInstance Tryz.prog Rows.planModelsRow.origin Rows.planModelsRow.targs:=of_decide_eq_true (by kernel_rfl)
theorem wrap:Tryz.f5.isWrapper Tryz.prog Rows.planModelsRow.wrapper Rows.planModelsRow.mainSum:=by unfold Func.isWrapper;rw [if_neg (of_decide_eq_false (by kernel_rfl))];exact ⟨rfl,rfl⟩
theorem over:Rows.PlanModelsSaid :=
 OpenClaim.holds_of_wide 5 Tryz.f5 rfl rfl rfl rfl rfl rfl rfl ⟨rfl,rfl,rfl,rfl,rfl⟩ rfl rfl rfl rfl rfl named Tryz.func5 closed inst wrap
  (fun os started H enc _=>lifted os started H enc)
theorem byText:Rows.planModelsRow.wfByText (OpenSpec.ofChange Rows.planModelsSpec)=true:=by kernel_rfl
theorem mainIs : Tryz.prog.mainIs = some (((true, "f25173250175b9aacc832745e98502d9796bb224982b4f95df53e49dc850ce8a") : Bool × String).1, ((true, "f25173250175b9aacc832745e98502d9796bb224982b4f95df53e49dc850ce8a") : Bool × String).2.toList) := by kernel_rfl
theorem looksL:true=Tryz.prog.looks []:=by kernel_rfl
theorem goes:false=Rows.planModelsRow.goesBy Tryz.prog:=by kernel_rfl
theorem proved:Rows.PlanModelsCardSaid :=
 Claim7.holds_tied_plain_at .later [] [.handle] true (true, "f25173250175b9aacc832745e98502d9796bb224982b4f95df53e49dc850ce8a") true
  over (fun _ h=>by cases h) byText (fun _ h=>by cases h) planModels_row_tie rfl ⟨rfl,rfl⟩ mainIs rfl
  (fun f fn hf hfn=>by
   obtain rfl:f=5:=Yv (named.symm.trans hf) |>.symm
   obtain rfl:fn=Tryz.f5:=(Yv (Tryz.func5.symm.trans hfn)).symm
   exact ⟨looksL,fun j t ht=>by
    rw [Tryz.params5] at ht
    rcases j with _|_|j
    · obtain rfl:t=26:=by simpa using ht.symm
      exact (show Tryz.prog.wantsStandIn 26=false by kernel_rfl)
    · obtain rfl:t=64:=by simpa using ht.symm
      exact (show Tryz.prog.wantsStandIn 64=false by kernel_rfl)
    · simp at ht⟩)
  goes
#print axioms proved
end PlanModelsDone
