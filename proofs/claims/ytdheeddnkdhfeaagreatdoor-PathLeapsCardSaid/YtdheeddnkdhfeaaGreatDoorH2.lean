/- Parts of the proof: Bas, Nv, Nt1, Nt2, Nt3, Nt4, Nt5, Nt6. -/
import Derived.Test.YtdheeddnkdhfeaaGreatDoorH1
import Derived.Laws.CopyOwn
import Derived.Deep.QuietTactic
import Derived.BigQuiet
import Derived.Deep.RegionHeld3
import Derived.Deep.DrawnRows
namespace Go.Proofs.YtdheeddnkdhfeaaGreatDoor
open Go.RowKit Go.Proofs.Tryz
theorem Qcc {k:IntKind}{a b:Int}(h:a=b):Ending.returned (.int k a)=.returned (.int k b):=by rw [h]
theorem Qbh {a b:Bool}(h:a=b):Ending.returned (.bool a)=.returned (.bool b):=by rw [h]
theorem Below.frozenOf {B:Nat}{w w':World}(h:Below B w w'){a:Addr}(hB:a.block<B):w'.frozen? a=w.frozen? a:=by unfold World.frozen?;rw [h.block _ hB]
theorem Qac {P:Program}{f:Nat}{args:Array Value}{w:World}{Q:Ending→World→Prop}(h:∀ W,W=w→Calls P f args W Q):Calls P f args w Q:=h w rfl
theorem Qlk {P:Program}{ops:Array Oper}{Q:Exit→Act→World→Prop}{md:Region.Mode}{S S':World→Prop}(h:∀ w,S' w→S w) :
 ∀ (fuel:Nat) (listed:Array Bool) (a:Act) (w:World),wpAnyH P md ops Q S' fuel listed a w→wpAnyH P md ops Q S fuel listed a w
 | 0,_,_,_,g=>g
 | fuel+1,_,_,_,g=>⟨g.1,fun i hi=>wpOp_mono (fun a' w' h'=>⟨h _ h'.1,Qlk h fuel _ a' w' h'.2⟩) (g.2 i hi)⟩
theorem take_ {P:Program}{ops:Array Oper}{Q:Exit→Act→World→Prop}{md:Region.Mode}{S:World→Prop}{i:Nat}{oi:Oper}{d:Option Tmp}{v:Value}{fuel:Nat}{listed:Array Bool}{a:Act}{w:World} (hi:ops[i]?=some oi) (hd:oi.dst=d)
 (hs:Region.noSelect ops=true) (hf:Region.free md ops listed i=true) (hr:(Region.ready md ops listed).contains i=true)
 (hQ:∀ c a w,Q (.panic c) (a.put oi.dst v) w→Q (.panic c) a w) (hw:Region.wanted oi (yielded ops a.tmps)=true) (hy:∀ w,S w→(execOp a.eval oi).run P w=.ok (.value v) w) (hS:S w)
 (h:wpAnyH P md ops Q S fuel (listed.setIfInBounds i true) (a.put d v) w):wpAnyH P md ops Q S (fuel+1) listed a w:=by subst hd;exact wpAnyH_take hi hs hf hr hQ (Or.inl ⟨hw,hy⟩) hS h
theorem takeU_ {P:Program}{ops:Array Oper}{Q:Exit→Act→World→Prop}{md:Region.Mode}{S:World→Prop}{i:Nat}{oi:Oper}{d:Option Tmp}{fuel:Nat}{listed:Array Bool}{a:Act}{w:World} (hi:ops[i]?=some oi) (hd:oi.dst=d)
 (hs:Region.noSelect ops=true) (hf:Region.free md ops listed i=true) (hr:(Region.ready md ops listed).contains i=true)
 (hQ:∀ c a w,Q (.panic c) (a.put oi.dst undef) w→Q (.panic c) a w) (hw:Region.wanted oi (yielded ops a.tmps)=false) (hS:S w)
 (h:wpAnyH P md ops Q S fuel (listed.setIfInBounds i true) (a.put d undef) w):wpAnyH P md ops Q S (fuel+1) listed a w:=by subst hd;exact wpAnyH_take hi hs hf hr hQ (Or.inr ⟨hw,rfl⟩) hS h
theorem Qax {P:Program}{w:World}{ops:Array Oper}{o:Oper}{a:Act}{K:Act→World→Prop}{Q:Exit→Act→World→Prop}{E:Prop}(d:Option Tmp)(hd:o.dst=d)(hgd:o.guard=none)(s x:Operand)(t:TypeId)
 (ho:o.op=.call { callee:=.builtin .append,args:=#[s,x],argTypes:=#[t,t] })
 (e:TypeId) (z:Value) (sz by_:Nat) (hinfo:(P.info? e).map (fun i=>(i.zero,i.size,i.bytes))=some (some z,sz,by_)) (ht:P.underlying t=some (.slice e)) (hzs:z.cells.size=sz) (hs0:0<sz)
 {B n c m c2:Nat} {A X:Option Addr} {xs news:List Value} (hs:a.eval s=.slice A n c) (hx:a.eval x=.slice X m c2)
 (hown:Own w B e sz A n c xs) (hr:Rds w sz X m news) (h1:∀ u∈news,u.oneCell'=true) (hn:(n+m)*by_≤140737488355328) (hnm:n+m≤9223372036854775807) (hB:B≤w.heap.size)
 (h:∀ A' c' w',Own w' B e sz A' (n+m) c' (xs ++news)→w.grownBy w' (Qab A)→(Qab A'=Qab A∨Qab A'=some w.heap.size)→K (a.put d (.slice A' (n+m) c')) w') :
 if Region.wanted o (yielded ops a.tmps)=true then Oper.wp P o a w K Q else E:=by subst hd;exact step_app hgd s x t ho e z sz by_ hinfo ht hzs hs0 hs hx hown hr h1 hn hnm hB h
theorem Qgy {P:Program}{f:FuncId}{args:Array Value}{w:World}{n:Nat}{v:Value}
 (h:Calls P f args (w.drewN n) fun e w'=>e=.returned v∧w.drewN n=w'):Calls P f args (w.drewN n) fun e w'=>e=.returned v∧∃ m,w'=w.drewN m :=
 h.mono fun _ _ ⟨he,hm⟩=>⟨he,n,hm.symm⟩
theorem Qbo:(Tryz.prog.info? 3).map (fun i=>(i.zero,i.size,i.bytes))=some (some (.int .i64 0),1,8):=by kernel_rfl
def RdT (w:World)(A:Option Addr)(n:Nat) (ls:List (List Int)):Prop :=
 ls.length=n∧∀ i l,ls[i]?=some l→∃ b o A' n' c',A=some ⟨b,o,none⟩∧w.cell? ⟨b,o+i,none⟩=some (.slice A' n' c')∧RdI w A' n' l∧n'≤c'∧c'≤9223372036854775807
theorem RdT.at_ {w:World}{A:Option Addr}{n i:Nat} {ls:List (List Int)} (h:RdT w A n ls) (hi:i<n) :
 ∃ b o A' n' c' l,A=some ⟨b,o,none⟩∧ls[i]?=some l∧w.cell? ⟨b,o+i,none⟩=some (.slice A' n' c')∧RdI w A' n' l∧n'≤c'∧c'≤9223372036854775807:=by
 have hl:i<ls.length:=by rw [h.1];exact hi
 obtain ⟨b,o,A',n',c',h1,h2,h3,h4,h5⟩:=h.2 i _ (List.getElem?_eq_getElem hl);exact ⟨b,o,A',n',c',_,h1,List.getElem?_eq_getElem hl,h2,h3,h4,h5⟩
theorem RdT.below {w w':World}{A:Option Addr}{n:Nat} {ls:List (List Int)} (h:RdT w A n ls) (hb:Below w.heap.size w w'):RdT w' A n ls :=
 ⟨h.1,fun i l hl=>by
  obtain ⟨b,o,A',n',c',h1,h2,h3,h4,h5⟩:=h.2 i l hl;exact ⟨b,o,A',n',c',h1,Zc hb (Nat.le_refl _) h2,h3.below hb,h4,h5⟩⟩
theorem Blk.two {w:World}{g:Nat}{t:TypeId}{a b:Value} (h:Blk w g t #[a,b]) :
 w.cell? ⟨g,0,none⟩=some a∧w.cell? ⟨g,1,none⟩=some b∧w.frozen? ⟨g,0,none⟩=false∧w.frozen? ⟨g,1,none⟩=false :=
 ⟨by rw [h.cell];rfl,by rw [h.cell];rfl,h.frozen 0,h.frozen 1⟩
theorem Blk.grown {w w':World}{g:Nat}{t:TypeId}{cs:Array Value}{r:Option Nat}(h:Blk w g t cs)(hg:w.grownBy w' r)(hne:r≠some g):Blk w' g t cs :=
 (hg.block g h.lt (fun e=>hne e.symm)).trans h
theorem Own.ne {w:World}{B s n c g:Nat}{e:TypeId}{A:Option Addr}{xs:List Value}(h:Own w B e s A n c xs)(hg:g<B):Qab A≠some g:=fun e'=>by have:=(h.lt g e').1;omega
theorem RdK.grown {k:IntKind}{w w':World}{A:Option Addr}{n g:Nat}{l:List Int}(h:RdK k w A n l) (hg:w.grownBy w' (some g)) (hne:Qab A≠some g):RdK k w' A n l :=
 ⟨h.1,fun i x hx=>by
  obtain ⟨b,o,e,hc⟩:=h.2 i x hx;subst e;refine ⟨b,o,rfl,?_⟩;have hb:=Qak hc;have hbne:(some b:Option Nat)≠some g:=hne;have:=hg.block b hb (fun e=>hbne e);unfold World.cell? at hc ⊢;rw [this];exact hc⟩
theorem Qad (W:World)(g i:Nat)(v:Value):W.grownBy (W.setCell ⟨g,i,none⟩ v) (some g) where
 os:=rfl
 tape:=rfl
 output:=rfl
 size:=by simp [World.setCell]
 block:=fun k hk hne=>Below.heap_setCell W ⟨g,i,none⟩ v k (fun e=>hne (by rw [e]))
theorem Own.capMax {w:World}{B s n c:Nat}{e:TypeId}{A:Option Addr}{xs:List Value}(h:Own w B e s A n c xs):c≤9223372036854775807:=by
 rcases h.2 with ⟨h',h0⟩|⟨g,cap,cur,h1,_,_,_,h4,_⟩
 {cases h';omega};{cases h1;unfold maxLen at h4;omega}
theorem Own.block {w:World}{B s n c:Nat}{e:TypeId}{A:Option Addr}{xs:List Value}(h:Own w B e s A n c xs)(hn:0<n) :
 ∃ g cur,A=some ⟨g,0,none⟩∧B≤g∧Blk w g e cur∧n≤c∧cur.size=c*s∧∀ (j:Nat) (u:Value),xs[j]?=some u→cur[j]?=some u:=by
 rcases h.2 with ⟨_,h0⟩|⟨g,cap,cur,h1,h2,h3,h4,_,h6,h7⟩
 {omega};{cases h1;refine ⟨g,cur,rfl,h2,h3,h4,h6,fun j u hu=>?_⟩;rw [←h7,List.getElem?_take] at hu;(split at hu);{simpa using hu};{cases hu}}
theorem RdK.grownN {k:IntKind}{w w':World}{A:Option Addr}{n:Nat}{r:Option Nat}{l:List Int}(h:RdK k w A n l)(hg:w.grownBy w' r)(hne:∀ g,Qab A=some g→r≠some g):RdK k w' A n l :=
 ⟨h.1,fun i x hx=>by
  obtain ⟨b,o,e,hc⟩:=h.2 i x hx;subst e;refine ⟨b,o,rfl,?_⟩;have hb:=Qak hc;have:=hg.block b hb (fun e=>hne b rfl e.symm);unfold World.cell? at hc ⊢;rw [this];exact hc⟩
theorem Qch (R:Option Addr)(m d:Nat):∀ u∈[Value.slice R m d],u.oneCell'=true:=by intro u hu;simp at hu;rw [hu];rfl
theorem RdK.far {k:IntKind}{w:World}{A:Option Addr}{n g i:Nat}{l:List Int}(h:RdK k w A n l)(v:Value)(hne:Qab A≠some g):RdK k (w.setCell ⟨g,i,none⟩ v) A n l :=
 h.grown (Qad w g i v) hne
theorem Qdg (n:Nat)(hn:n≤1000000000)(W:World):(Instr.makeSlice 61 (.int .i64 (n:Int)) (.int .i64 (n:Int))).run prog W=.ok (.slice (some ⟨W.heap.size,0,none⟩) n n) (W.alloc (.cells (Qbs (.int .i64 0) n) 3)) :=
 Qfp (P:=prog) 61 3 (.int .i64 0) 8 Qbo underlying61 rfl n (by omega) (by omega) .i64 .i64 W
theorem lit0 {W:World}{B:Nat}{t:TypeId}(hB:B≤W.heap.size):Own (W.alloc (.cells #[] t)) B t 1 (some ⟨W.heap.size,0,none⟩) 0 0 []:=Own.lit W #[] 0 hB (by omega) rfl
/-! Whichever way the next operations come up. -/
section
variable {P:Program} {ops:Array Oper} {Q:Exit→Act→World→Prop} {md:Region.Mode} {S:World→Prop}
def wpC (P:Program)(md:Region.Mode)(ops:Array Oper)(Q:Exit→Act→World→Prop)(S:World→Prop)(L:Array Bool)(C:Act→World→Prop):Nat→Array Bool→Act→World→Prop
 | 0,listed,a,w=>listed=L∧C a w
 | n+1,listed,a,w=>Region.ready md ops listed≠[]∧∀ i∈Region.ready md ops listed,wpOp P ops Q i (fun a' w'=>S w'∧wpC P md ops Q S L C n (listed.setIfInBounds i true) a' w') a w
theorem Qzo {L:Array Bool}{C:Act→World→Prop}{f0:Nat}(h:∀ a w,C a w→wpAnyH P md ops Q S f0 L a w):∀ (n:Nat) (listed:Array Bool) (a:Act) (w:World),wpC P md ops Q S L C n listed a w→wpAnyH P md ops Q S (f0+n) listed a w
 | 0,_,_,_,⟨e,hc⟩=>by subst e;exact h _ _ hc
 | n+1,listed,a,w,⟨hne,hall⟩=>wpAnyH_all (fuel:=f0+n) rfl hne (fun i hi=>wpOp_mono (fun a' w' h'=>⟨h'.1,Qzo h n _ a' w' h'.2⟩) (hall i hi))
def Qhi (P:Program)(md:Region.Mode)(ops:Array Oper)(Q:Exit→Act→World→Prop)(S:World→Prop)(L:Array Bool)(C:Act→World→Prop)(n:Nat)(listed:Array Bool)(a:Act)(w:World)(rs:List Nat):Prop :=
 ∀ i∈rs,wpOp P ops Q i (fun a' w'=>S w'∧wpC P md ops Q S L C n (listed.setIfInBounds i true) a' w') a w
theorem Qhi.nil {L:Array Bool}{C:Act→World→Prop}{n:Nat}{listed:Array Bool}{a:Act}{w:World}:Qhi P md ops Q S L C n listed a w []:=fun _ h=>by cases h
theorem Qhi.cons {L:Array Bool}{C:Act→World→Prop}{n:Nat}{listed:Array Bool}{a:Act}{w:World}{i:Nat}{o:Oper}{rs:List Nat} (ho:ops[i]?=some o)
 (h:∀ K':Act→World→Prop,Shut (∀ a w,S w→(S w→wpC P md ops Q S L C n (listed.setIfInBounds i true) a w)→K' a w)→if Region.wanted o (yielded ops a.tmps)=true then Oper.wp P o a w K' Q else K' (a.put o.dst undef) w)
 (hs:Qhi P md ops Q S L C n listed a w rs):Qhi P md ops Q S L C n listed a w (i::rs):=fun j hj=>by
 rcases List.mem_cons.1 hj with rfl|hj
 {exact wpOp_step ho (fun K' hK=>h K' (fun a w hS hW=>hK a w ⟨hS,hW hS⟩))};{exact hs j hj}
theorem Qcv {L:Array Bool}{C:Act→World→Prop}{rs:List Nat}{n:Nat}{listed:Array Bool}{a:Act}{w:World}(hr:Region.ready md ops listed=rs) (hne:rs≠[]) (h:Qhi P md ops Q S L C n listed a w rs):wpC P md ops Q S L C (n+1) listed a w :=
 ⟨hr▸hne,hr▸h⟩
theorem Qqi {G:Value→Value→Value→World→Prop}{L listed:Array Bool}{f0 fuel:Nat}{a:Act}{w:World}(d1 d2 d3:Option Tmp)(hf:fuel=f0+3)
 (hA:∀ C:Act→World→Prop,Shut (∀ v1 v2 v3 w',G v1 v2 v3 w'→C (((a.put d1 v1).put d2 v2).put d3 v3) w')→wpC P md ops Q S L C 3 listed a w)
 (hB:∀ v1 v2 v3 w',G v1 v2 v3 w'→wpAnyH P md ops Q S f0 L (((a.put d1 v1).put d2 v2).put d3 v3) w'):wpAnyH P md ops Q S fuel listed a w:=by subst hf;exact Qzo (C:=fun a' w'=>wpAnyH P md ops Q S f0 L a' w') (fun _ _ h=>h) 3 listed a w (hA _ hB)
end
/-! Shorter words (fill.py's TAKES, TAKEU, (by repeat (first | exact Below.refl _ _ | assumption | apply Below.drew | apply Qay | apply Bel.alloc | (refine Zi ?_ ?_; rotate_left; omega) | (refine Zb ?_ (by assumption)))), (by repeat (first | assumption | apply Blk.drewN | apply Blk.drew | apply Blk.alloc | (refine Blk.far_ ?_ ?_ _; rotate_left; omega))), (by repeat (first | assumption | (refine Blk.new' _ _ _ ?_; first | with_unfolding_all rfl | (simp; done)) | apply Blk.drewN | apply Blk.drew | apply Blk.alloc | (refine Blk.far_ ?_ ?_ _; rotate_left; omega)))) -/
theorem tv {p:Prop} (h:p:=by (intro V hSw;(try (have hF:=HSX.out V hSw));(try (cases hSw));(try go_split_ands);go_simp;try with_reducible rfl)):p:=h
section
variable {P:Program} {ops:Array Oper} {Q:Exit→Act→World→Prop} {md:Region.Mode} {S:World→Prop} {oi:Oper} {fuel:Nat} {listed:Array Bool} {a:Act} {w:World}
theorem tk (i d:Nat) (hi:ops[i]?=some oi:=by rfl) (hd:oi.dst=some d:=by rfl) (hs:Region.noSelect ops=true:=by kernel_rfl) (hf:Region.free md ops listed i=true:=by kernel_rfl) (hr:(Region.ready md ops listed).contains i=true:=by kernel_rfl)
 (hQ:∀ c a w v,Q (.panic c) (a.put oi.dst v) w→Q (.panic c) a w:=by exact fun _ _ _ _ h=>h) (hw:Region.wanted oi (yielded ops a.tmps)=true:=by rfl) (hS:S w:=by first|rfl|trivial|assumption)
 (h:∃ v,(∀ w,S w→(execOp a.eval oi).run P w=.ok (.value v) w)∧wpAnyH P md ops Q S fuel (listed.setIfInBounds i true) (a.put (some d) v) w):wpAnyH P md ops Q S (fuel+1) listed a w:=by obtain ⟨v,h1,h2⟩:=h;exact take_ (i:=i) (d:=some d) (v:=v) hi hd hs hf hr (fun c a w=>hQ c a w v) hw h1 hS h2
theorem tu (i d:Nat) (hi:ops[i]?=some oi:=by rfl) (hd:oi.dst=some d:=by rfl) (hs:Region.noSelect ops=true:=by kernel_rfl) (hf:Region.free md ops listed i=true:=by kernel_rfl) (hr:(Region.ready md ops listed).contains i=true:=by kernel_rfl)
 (hQ:∀ c a w,Q (.panic c) (a.put oi.dst undef) w→Q (.panic c) a w:=by exact fun _ _ _ h=>h) (hw:Region.wanted oi (yielded ops a.tmps)=false:=by rfl) (hS:S w:=by first|rfl|trivial|assumption)
 (h:wpAnyH P md ops Q S fuel (listed.setIfInBounds i true) (a.put (some d) undef) w):wpAnyH P md ops Q S (fuel+1) listed a w :=
 takeU_ (i:=i) (d:=some d) hi hd hs hf hr hQ hw hS h
end
theorem pE (l:List Value)(ds:List Deferred)(k:Nat)(v:Value):Act.put ⟨l.toArray,ds⟩ (some k) v=⟨(l.set k v).toArray,ds⟩:=by simp [Act.put]
theorem Qah {B:Nat}{w w':World} (h:Below B w w':=by repeat (first|exact Below.refl _ _|assumption|apply Below.drew|apply Qay|apply Bel.alloc|(refine Zi ?_ ?_;rotate_left;omega)|(refine Zb ?_ (by assumption)))):Below B w w':=h
theorem Qnd {w:World}{g:Nat}{t:TypeId}{cs:Array Value} (h:Blk w g t cs:=by repeat (first|assumption|apply Blk.drewN|apply Blk.drew|apply Blk.alloc|(refine Blk.far_ ?_ ?_ _;rotate_left;omega))):Blk w g t cs:=h
theorem Qbi {w:World}{g:Nat}{t:TypeId}{cs:Array Value} (h:Blk w g t cs:=by repeat (first|assumption|(refine Blk.new' _ _ _ ?_;first|with_unfolding_all rfl|(simp;done))|apply Blk.drewN|apply Blk.drew|apply Blk.alloc|(refine Blk.far_ ?_ ?_ _;rotate_left;omega))):Blk w g t cs:=h
theorem tz {P:Program}{ops:Array Oper}{Q:Exit→Act→World→Prop}{md:Region.Mode}{S:World→Prop}{oi:Oper}{fuel:Nat}{listed:Array Bool}{l l':List Value}{ds:List Deferred}{w:World}{v:Value}(i d:Nat) (h:wpAnyH P md ops Q S fuel (listed.setIfInBounds i true) ⟨l'.toArray,ds⟩ w) (hi:ops[i]?=some oi:=by rfl) (hd:oi.dst=some d:=by rfl) (hs:Region.noSelect ops=true:=by kernel_rfl) (hf:Region.free md ops listed i=true:=by kernel_rfl) (hr:(Region.ready md ops listed).contains i=true:=by kernel_rfl)
    (hQ:∀ c a w v,Q (.panic c) (a.put oi.dst v) w→Q (.panic c) a w:=by exact fun _ _ _ _ h=>h) (hw:Region.wanted oi (yielded ops l.toArray)=true:=by rfl) (hS:S w:=by first|rfl|trivial|assumption) (hl:l.set d v=l':=by simp only [List.set];rfl)
    (hv:∀ w,S w→(execOp (Act.eval ⟨l.toArray,ds⟩) oi).run P w=.ok (.value v) w:=by (intro V hSw;(try (have hF:=HSX.out V hSw));(try (cases hSw));(try go_split_ands);go_simp;try with_reducible rfl)):wpAnyH P md ops Q S (fuel+1) listed ⟨l.toArray,ds⟩ w:=by subst hl;exact tk i d hi hd hs hf hr hQ hw hS ⟨v,hv,by rw [pE];exact h⟩
theorem tw {P:Program}{ops:Array Oper}{Q:Exit→Act→World→Prop}{md:Region.Mode}{S:World→Prop}{oi:Oper}{fuel:Nat}{listed:Array Bool}{l l':List Value}{ds:List Deferred}{w:World}(i d:Nat) (h:wpAnyH P md ops Q S fuel (listed.setIfInBounds i true) ⟨l'.toArray,ds⟩ w) (hi:ops[i]?=some oi:=by rfl) (hd:oi.dst=some d:=by rfl) (hs:Region.noSelect ops=true:=by kernel_rfl) (hf:Region.free md ops listed i=true:=by kernel_rfl) (hr:(Region.ready md ops listed).contains i=true:=by kernel_rfl)
    (hQ:∀ c a w,Q (.panic c) (a.put oi.dst undef) w→Q (.panic c) a w:=by exact fun _ _ _ h=>h) (hw:Region.wanted oi (yielded ops l.toArray)=false:=by rfl) (hS:S w:=by first|rfl|trivial|assumption) (hl:l.set d undef=l':=by simp only [List.set];rfl):wpAnyH P md ops Q S (fuel+1) listed ⟨l.toArray,ds⟩ w:=by subst hl;exact tu i d hi hd hs hf hr hQ hw hS (by rw [pE];exact h)
theorem Zk {P:Program}{ops:Array Oper}{Q:Exit→Act→World→Prop}{md:Region.Mode}{S:World→Prop}{fuel:Nat}{listed:Array Bool}{a:Act}{w:World}(k:Nat){o:Oper}
    (h:∀ K':Act→World→Prop,Shut (∀ a w,S w→(S w→wpAnyH P md ops Q S fuel (listed.setIfInBounds k true) a w)→K' a w)→if Region.wanted o (yielded ops a.tmps)=true then Oper.wp P o a w K' Q else K' (a.put o.dst undef) w)
    (hr:Region.ready md ops listed=[k]:=by kernel_rfl) (ho:ops[k]?=some o:=by rfl):wpAnyH P md ops Q S (fuel+1) listed a w:=wpAnyH_ready hr (by simp) (AllReadyH.cons ho h AllReadyH.nil)
theorem Zh {p:Prop}(h:p):RowKit.Hid p:=Lib.hid h
theorem Zs {α:Type _}{l:List α}{i:Nat}{a:α} (h:l[i]?=some a):∃ h:i<l.length,l[i]=a:=List.getElem?_eq_some_iff.1 h
theorem Zg {α:Type _}{l:List α}{i:Nat}(h:i<l.length):l[i]?=some l[i]:=List.getElem?_eq_getElem h
theorem Zm {α:Type _}{l:List α}{i:Nat}{a:α} (h:l[i]?=some a):a∈l:=List.mem_of_getElem? h
theorem Zn (n:Nat):n≤n:=Nat.le_refl n
theorem Zr (B:Nat)(w:World):Below B w w:=Below.refl B w
theorem Zq {w:World}{g i:Nat}{t:TypeId}{cs:Array Value}{v:Value}(h:Blk w g t cs) (e:cs[i]?=some v:=by rfl):w.cell? ⟨g,i,none⟩=some v:=(h.cell i).trans e
theorem Zd {P:Program}{ops:Array Oper}{Q:Exit→Act→World→Prop}{md:Region.Mode}{S:World→Prop}{fuel:Nat}{listed:Array Bool}{a:Act}{w:World}(h:Q .normal a w) (hr:Region.ready md ops listed=[]:=by kernel_rfl):wpAnyH P md ops Q S fuel listed a w:=wpAnyH_done hr h _
theorem Ya {α:Type _}{l:List α}{i:Nat}{a:α}:l.getD i a=l[i]?.getD a:=List.getD_eq_getElem?_getD
theorem Yb {α:Type _}{l₁ l₂:List α}{i:Nat}(h:l₁.length≤i):(l₁ ++l₂)[i]?=l₂[i-l₁.length]?:=List.getElem?_append_right h
theorem Yc {α:Type _}{l₁ l₂:List α}{i:Nat}(h:i<l₁.length):(l₁ ++l₂)[i]?=l₁[i]?:=List.getElem?_append_left h
theorem Yd {α:Type _}{l:List α}{i:Nat}(h:l.length≤i):l[i]?=none:=List.getElem?_eq_none h
theorem Ye {α:Type _}{l:List α}{i:Nat}(h:l.length≤i):l.take i=l:=List.take_of_length_le h
theorem Yf {α:Type _}{l:List α}{i:Nat}(h:i<l.length):l.take (i+1)=l.take i ++[l[i]]:=List.take_succ_eq_append_getElem h
theorem Yg {α:Type _}{l:List α}{i:Nat}{a:α}(h:i<l.length):(l.set i a)[i]?=some a:=List.getElem?_set_self h
theorem Yh {α:Type _}{l:List α}{i j:Nat}(h:i≠j){a:α}:(l.set i a)[j]?=l[j]?:=List.getElem?_set_ne h
theorem Yi {α:Type _}{l:List α}{i:Nat}{a:α}:l.toArray.setIfInBounds i a=(l.set i a).toArray:=List.setIfInBounds_toArray ..
theorem Yj {α:Type _}{l:List α}{a b:α}:(a::l).set 0 b=b::l:=List.set_cons_zero
theorem Yk {α:Type _}{l:List α}{i:Nat}{a b:α}:(a::l).set (i+1) b=a::l.set i b:=List.set_cons_succ
theorem Yl (n:Nat):((n:Int)).toNat=n:=Int.toNat_natCast n
theorem Yn {α:Type _}{l:List α}{a:α}:(a::l)[0]?=some a:=List.getElem?_cons_zero
theorem Yo {α:Type _}{l:List α}{i:Nat}:l.toArray[i]?=l[i]?:=List.getElem?_toArray
theorem Yp {α:Type _}{l₁ l₂:List α}:(l₁ ++l₂).length=l₁.length+l₂.length:=List.length_append
theorem Yq {α:Type _}{l:List α}{i:Nat}{a:α}:(l.set i a).length=l.length:=List.length_set
theorem Yr {α:Type _}{a:α}{l:List α}(h:a∈l):∃ i:Nat,l[i]?=some a:=List.getElem?_of_mem h
theorem Yt {α β:Type _}{f:α→β}{l:List α}{i:Nat}:(l.map f)[i]?=Option.map f l[i]?:=List.getElem?_map
theorem Yu {n m k:Nat}(h:n<m)(g:m≤k):n<k:=Nat.lt_of_lt_of_le h g
theorem Yv {α:Type _}{a b:α}(h:some a=some b):a=b:=Option.some.inj h
theorem Yw {α:Type _}{i:Nat}{l:List α}:(l.take i).length=min i l.length:=List.length_take
theorem Yx {n m k:Nat}(h:n≤m)(g:m≤k):n≤k:=Nat.le_trans h g
theorem Yy (n:Nat):n-n=0:=Nat.sub_self n
theorem Yz (n:Nat):0+n=n:=Nat.zero_add n
theorem tzb {P:Program} {ops:Array Oper} {Q:Exit→Act→World→Prop} {md:Region.Mode} {S:World→Prop} {fuel:Nat} {listed:Array Bool} {l:List Value} {ds:List Deferred} {w:World} {o0 o1:Oper} {l1 l2:List Value} {v0 v1:Value} (i d:Nat) (h:wpAnyH P md ops Q S fuel ((listed.setIfInBounds i true).setIfInBounds (i+1) true) ⟨l2.toArray,ds⟩ w) (hs:Region.noSelect ops=true:=by kernel_rfl) (hS:S w:=by first | rfl | trivial | assumption)
 (hi0:ops[i]?=some o0:=by rfl) (hd0:o0.dst=some d:=by rfl) (hf0:Region.free md ops listed i=true:=by kernel_rfl) (hr0:(Region.ready md ops listed).contains i=true:=by kernel_rfl) (hQ0:∀ c a w v,Q (.panic c) (a.put o0.dst v) w→Q (.panic c) a w:=by exact fun _ _ _ _ h=>h) (hw0:Region.wanted o0 (yielded ops l.toArray)=true:=by rfl) (hl0:l.set d v0=l1:=by simp only [List.set];rfl) (hv0:∀ w,S w→(execOp (Act.eval ⟨l.toArray,ds⟩) o0).run P w=.ok (.value v0) w:=by (intro V hSw;(try (have hF:=HSX.out V hSw));(try (cases hSw));(try go_split_ands);go_simp;try with_reducible rfl))
 (hi1:ops[(i+1)]?=some o1:=by rfl) (hd1:o1.dst=some (d+1):=by rfl) (hf1:Region.free md ops (listed.setIfInBounds i true) (i+1)=true:=by kernel_rfl) (hr1:(Region.ready md ops (listed.setIfInBounds i true)).contains (i+1)=true:=by kernel_rfl) (hQ1:∀ c a w v,Q (.panic c) (a.put o1.dst v) w→Q (.panic c) a w:=by exact fun _ _ _ _ h=>h) (hw1:Region.wanted o1 (yielded ops l1.toArray)=true:=by rfl) (hl1:l1.set (d+1) v1=l2:=by simp only [List.set];rfl) (hv1:∀ w,S w→(execOp (Act.eval ⟨l1.toArray,ds⟩) o1).run P w=.ok (.value v1) w:=by (intro V hSw;(try (have hF:=HSX.out V hSw));(try (cases hSw));(try go_split_ands);go_simp;try with_reducible rfl)):wpAnyH P md ops Q S (fuel+2) listed ⟨l.toArray,ds⟩ w:=tz i d (tz (i+1) (d+1) h hi1 hd1 hs hf1 hr1 hQ1 hw1 hS hl1 hv1) hi0 hd0 hs hf0 hr0 hQ0 hw0 hS hl0 hv0
theorem tzd {P:Program} {ops:Array Oper} {Q:Exit→Act→World→Prop} {md:Region.Mode} {S:World→Prop} {fuel:Nat} {listed:Array Bool} {l:List Value} {ds:List Deferred} {w:World} {o0 o1 o2 o3:Oper} {l1 l2 l3 l4:List Value} {v0 v1 v2 v3:Value} (i d:Nat) (h:wpAnyH P md ops Q S fuel ((((listed.setIfInBounds i true).setIfInBounds (i+1) true).setIfInBounds (i+2) true).setIfInBounds (i+3) true) ⟨l4.toArray,ds⟩ w) (hs:Region.noSelect ops=true:=by kernel_rfl) (hS:S w:=by first | rfl | trivial | assumption)
 (hi0:ops[i]?=some o0:=by rfl) (hd0:o0.dst=some d:=by rfl) (hf0:Region.free md ops listed i=true:=by kernel_rfl) (hr0:(Region.ready md ops listed).contains i=true:=by kernel_rfl) (hQ0:∀ c a w v,Q (.panic c) (a.put o0.dst v) w→Q (.panic c) a w:=by exact fun _ _ _ _ h=>h) (hw0:Region.wanted o0 (yielded ops l.toArray)=true:=by rfl) (hl0:l.set d v0=l1:=by simp only [List.set];rfl) (hv0:∀ w,S w→(execOp (Act.eval ⟨l.toArray,ds⟩) o0).run P w=.ok (.value v0) w:=by (intro V hSw;(try (have hF:=HSX.out V hSw));(try (cases hSw));(try go_split_ands);go_simp;try with_reducible rfl))
 (hi1:ops[(i+1)]?=some o1:=by rfl) (hd1:o1.dst=some (d+1):=by rfl) (hf1:Region.free md ops (listed.setIfInBounds i true) (i+1)=true:=by kernel_rfl) (hr1:(Region.ready md ops (listed.setIfInBounds i true)).contains (i+1)=true:=by kernel_rfl) (hQ1:∀ c a w v,Q (.panic c) (a.put o1.dst v) w→Q (.panic c) a w:=by exact fun _ _ _ _ h=>h) (hw1:Region.wanted o1 (yielded ops l1.toArray)=true:=by rfl) (hl1:l1.set (d+1) v1=l2:=by simp only [List.set];rfl) (hv1:∀ w,S w→(execOp (Act.eval ⟨l1.toArray,ds⟩) o1).run P w=.ok (.value v1) w:=by (intro V hSw;(try (have hF:=HSX.out V hSw));(try (cases hSw));(try go_split_ands);go_simp;try with_reducible rfl))
 (hi2:ops[(i+2)]?=some o2:=by rfl) (hd2:o2.dst=some (d+2):=by rfl) (hf2:Region.free md ops ((listed.setIfInBounds i true).setIfInBounds (i+1) true) (i+2)=true:=by kernel_rfl) (hr2:(Region.ready md ops ((listed.setIfInBounds i true).setIfInBounds (i+1) true)).contains (i+2)=true:=by kernel_rfl) (hQ2:∀ c a w v,Q (.panic c) (a.put o2.dst v) w→Q (.panic c) a w:=by exact fun _ _ _ _ h=>h) (hw2:Region.wanted o2 (yielded ops l2.toArray)=true:=by rfl) (hl2:l2.set (d+2) v2=l3:=by simp only [List.set];rfl) (hv2:∀ w,S w→(execOp (Act.eval ⟨l2.toArray,ds⟩) o2).run P w=.ok (.value v2) w:=by (intro V hSw;(try (have hF:=HSX.out V hSw));(try (cases hSw));(try go_split_ands);go_simp;try with_reducible rfl))
 (hi3:ops[(i+3)]?=some o3:=by rfl) (hd3:o3.dst=some (d+3):=by rfl) (hf3:Region.free md ops (((listed.setIfInBounds i true).setIfInBounds (i+1) true).setIfInBounds (i+2) true) (i+3)=true:=by kernel_rfl) (hr3:(Region.ready md ops (((listed.setIfInBounds i true).setIfInBounds (i+1) true).setIfInBounds (i+2) true)).contains (i+3)=true:=by kernel_rfl) (hQ3:∀ c a w v,Q (.panic c) (a.put o3.dst v) w→Q (.panic c) a w:=by exact fun _ _ _ _ h=>h) (hw3:Region.wanted o3 (yielded ops l3.toArray)=true:=by rfl) (hl3:l3.set (d+3) v3=l4:=by simp only [List.set];rfl) (hv3:∀ w,S w→(execOp (Act.eval ⟨l3.toArray,ds⟩) o3).run P w=.ok (.value v3) w:=by (intro V hSw;(try (have hF:=HSX.out V hSw));(try (cases hSw));(try go_split_ands);go_simp;try with_reducible rfl)):wpAnyH P md ops Q S (fuel+4) listed ⟨l.toArray,ds⟩ w:=tz i d (tz (i+1) (d+1) (tz (i+2) (d+2) (tz (i+3) (d+3) h hi3 hd3 hs hf3 hr3 hQ3 hw3 hS hl3 hv3) hi2 hd2 hs hf2 hr2 hQ2 hw2 hS hl2 hv2) hi1 hd1 hs hf1 hr1 hQ1 hw1 hS hl1 hv1) hi0 hd0 hs hf0 hr0 hQ0 hw0 hS hl0 hv0
theorem Zx {α:Sort _} (a:α):∃ x,x=a:=⟨_,rfl⟩
abbrev Tri:=Int×Int×Int
def Qaw:List Tri→List Value
 | []=>[]
 | p::t=>.int .i64 p.1::.int .i64 p.2.1::.int .i64 p.2.2::Qaw t
theorem Qiu:∀ l:List Tri,(Qaw l).length=l.length*3
 | []=>rfl
 | _::t=>by simp [Qaw,Qiu t];omega
theorem Qei:∀ l m:List Tri,Qaw (l ++m)=Qaw l ++Qaw m
 | [],_=>rfl
 | p::t,m=>by simp [Qaw,Qei t m]
theorem Qmv:∀ {l:List Tri}{i:Nat}{p:Tri},l[i]?=some p→(Qaw l)[i*3]?=some (.int .i64 p.1)∧(Qaw l)[i*3+1]?=some (.int .i64 p.2.1)∧(Qaw l)[i*3+2]?=some (.int .i64 p.2.2)
 | [],i,p,h=>by simp at h
 | q::t,0,p,h=>by simp at h;subst h;simp [Qaw]
 | q::t,i+1,p,h=>by have:=Qmv (l:=t) (i:=i) (p:=p) (by simpa using h);rw [show (i+1)*3=i*3+1+1+1 by omega,show i*3+1+1+1+1=(i*3+1)+1+1+1 by omega,show i*3+1+1+1+2=(i*3+2)+1+1+1 by omega];simpa [Qaw] using this
theorem Qdp (l:List Tri):∀ u∈Qaw l,u.oneCell'=true:=by
 induction l with
 | nil=>intro u hu;cases hu
 | cons p t ih =>
  intro u hu;simp only [Qaw,List.mem_cons] at hu;rcases hu with rfl|rfl|rfl|hu
  {rfl};{rfl};{rfl};{exact ih u hu}
def Rd3 (w:World)(A:Option Addr)(n:Nat)(l:List Tri):Prop :=
 l.length=n∧∀ i x,l[i]?=some x→∃ b o,A=some ⟨b,o,none⟩∧w.cell? ⟨b,o+i*3,none⟩=some (.int .i64 x.1)∧w.cell? ⟨b,o+i*3+1,none⟩=some (.int .i64 x.2.1)∧w.cell? ⟨b,o+i*3+2,none⟩=some (.int .i64 x.2.2)
theorem Rd3.at_ {w:World}{A:Option Addr}{n i:Nat}{l:List Tri}(h:Rd3 w A n l)(hi:i<n) :
 ∃ b o x y z,A=some ⟨b,o,none⟩∧l[i]?=some (x,y,z)∧w.cell? ⟨b,o+i*3,none⟩=some (.int .i64 x)∧w.cell? ⟨b,o+i*3+1,none⟩=some (.int .i64 y)∧w.cell? ⟨b,o+i*3+2,none⟩=some (.int .i64 z):=by
 have hl:i<l.length:=by rw [h.1];exact hi
 obtain ⟨b,o,e,hc⟩:=h.2 i _ (Zg hl);exact ⟨b,o,_,_,_,e,Zg hl,hc⟩
theorem Rd3.below {w w':World}{A:Option Addr}{n:Nat}{l:List Tri}(h:Rd3 w A n l)(hb:Below w.heap.size w w'):Rd3 w' A n l :=
 ⟨h.1,fun i x hx=>by
  obtain ⟨b,o,e,h1,h2,h3⟩:=h.2 i x hx;exact ⟨b,o,e,Zc hb (Zn _) h1,Zc hb (Zn _) h2,Zc hb (Zn _) h3⟩⟩
theorem Rds.rd3 {w:World}{n:Nat}{A:Option Addr}{l:List Tri} (h:Rds w 3 A n (Qaw l)):Rd3 w A n l :=
 ⟨by have:=h.1;rw [Qiu] at this;omega,fun i p hp=>by
  obtain ⟨h1,h2,h3⟩:=Qmv hp;obtain ⟨b,o,e,c1⟩:=h.2 _ _ h1;obtain ⟨b',o',e',c2⟩:=h.2 _ _ h2;rw [e] at e';cases e'
  obtain ⟨b',o',e',c3⟩:=h.2 _ _ h3;rw [e] at e';cases e'
  exact ⟨b,o,e,c1,by rw [Nat.add_assoc];exact c2,by rw [Nat.add_assoc];exact c3⟩⟩
theorem Qqc:∀ {l:List Tri}{j:Nat}{u:Value},(Qaw l)[j]?=some u→∃ p,l[j / 3]?=some p∧((j % 3=0∧u=.int .i64 p.1)∨(j % 3=1∧u=.int .i64 p.2.1)∨(j % 3=2∧u=.int .i64 p.2.2))
 | [],j,u,h=>by simp [Qaw] at h
 | q::t,0,u,h=>by simp [Qaw] at h;exact ⟨q,by simp,.inl ⟨rfl,h.symm⟩⟩
 | q::t,1,u,h=>by simp [Qaw] at h;exact ⟨q,by simp,.inr (.inl ⟨rfl,h.symm⟩)⟩
 | q::t,2,u,h=>by simp [Qaw] at h;exact ⟨q,by simp,.inr (.inr ⟨rfl,h.symm⟩)⟩
 | q::t,j+3,u,h=>by obtain ⟨p,h1,h2⟩:=Qqc (l:=t) (j:=j) (u:=u) (by simpa [Qaw] using h);refine ⟨p,?_,?_⟩;{rw [show (j+3) / 3=j / 3+1 by omega];simpa using h1};{rw [show (j+3) % 3=j % 3 by omega];exact h2}
theorem Rd3.rds {w:World}{n:Nat}{A:Option Addr}{l:List Tri}(h:Rd3 w A n l):Rds w 3 A n (Qaw l) :=
 ⟨by rw [Qiu,h.1],fun j u hu=>by
  obtain ⟨p,hp,hu'⟩:=Qqc hu;obtain ⟨b,o,e,h1,h2,h3⟩:=h.2 _ p hp;refine ⟨b,o,e,?_⟩
  rcases hu' with ⟨hm,rfl⟩|⟨hm,rfl⟩|⟨hm,rfl⟩
  · rw [show o+j=o+j / 3*3 by omega];exact h1
  · rw [show o+j=o+j / 3*3+1 by omega];exact h2
  · rw [show o+j=o+j / 3*3+2 by omega];exact h3⟩
structure Qft where
 ins:Int
 outs:Int
 costs:List Int
def Qol (w:World)(b o:Nat)(t:Qft):Prop:=w.cell? ⟨b,o,none⟩=some (.int .i64 t.ins)∧w.cell? ⟨b,o+1,none⟩=some (.int .i64 t.outs)∧∃ (A:Option Addr) (n c:Nat),w.cell? ⟨b,o+2,none⟩=some (.slice A n c)∧RdI w A n t.costs∧n≤c∧c≤9223372036854775807
theorem Qol.below {w w':World}{b o:Nat}{t:Qft}(h:Qol w b o t)(hb:Below w.heap.size w w'):Qol w' b o t:=by obtain ⟨h1,h2,A,n,c,h3,h4,h5⟩:=h;exact ⟨Zc hb (Zn _) h1,Zc hb (Zn _) h2,A,n,c,Zc hb (Zn _) h3,h4.below hb,h5⟩
def RdY (w:World)(A:Option Addr)(n:Nat)(l:List Qft):Prop:=l.length=n∧∀ i t,l[i]?=some t→∃ b o,A=some ⟨b,o,none⟩∧Qol w b (o+i*3) t
theorem RdY.at_ {w:World}{A:Option Addr}{n i:Nat}{l:List Qft}(h:RdY w A n l)(hi:i<n):∃ b o t,A=some ⟨b,o,none⟩∧l[i]?=some t∧Qol w b (o+i*3) t:=by
 have hl:i<l.length:=by rw [h.1];exact hi
 obtain ⟨b,o,e,hc⟩:=h.2 i _ (Zg hl);exact ⟨b,o,_,e,Zg hl,hc⟩
theorem RdY.below {w w':World}{A:Option Addr}{n:Nat}{l:List Qft}(h:RdY w A n l)(hb:Below w.heap.size w w'):RdY w' A n l :=
 ⟨h.1,fun i t ht=>by obtain ⟨b,o,e,hc⟩:=h.2 i t ht;exact ⟨b,o,e,hc.below hb⟩⟩
structure Qam where
 vs:List Tri
 ar:List Tri
 ts:List Qft
def Qbz (w:World)(A B C:Option Addr)(n m k:Nat)(N:Qam):Prop:=Rd3 w A n N.vs∧Rd3 w B m N.ar∧RdY w C k N.ts
theorem Qbz.below {w w':World}{A B C:Option Addr}{n m k:Nat}{N:Qam}(h:Qbz w A B C n m k N)(hb:Below w.heap.size w w'):Qbz w' A B C n m k N:=⟨h.1.below hb,h.2.1.below hb,h.2.2.below hb⟩
def wOk (a:Int):Bool:=(decide (0≤a) && decide (a≤2147483648)) || decide (a=1152921504606846976)
def Qhd (x:Int):Bool:=decide (-1048576≤x) && decide (x≤1048576)
structure Qom (t:Qft):Prop where
 i0:0≤t.ins
 i16:t.ins≤16
 o0:0≤t.outs
 o16:t.outs≤16
 len:(t.costs.length:Int)=t.ins*t.outs
 ok:∀ c∈t.costs,wOk c=true
def cntTo (l:List Tri)(v:Nat):Nat:=l.countP (fun a=>a.2.1 == (v:Int))
def cntFr (l:List Tri)(v:Nat):Nat:=l.countP (fun a=>a.1 == (v:Int))
structure Qwf (k:Nat) (v:Tri):Prop where
 x:Qhd v.1=true
 y:Qhd v.2.1=true
 t0:0≤v.2.2
 t1:v.2.2<k
structure ArcOk (n:Nat) (a:Tri):Prop where
 f0:0≤a.1
 f1:a.1<n
 g0:0≤a.2.1
 g1:a.2.1<n
 w:wOk a.2.2=true
structure Qap (N:Qam):Prop where
 lv:N.vs.length≤4096
 la:N.ar.length≤16384
 lt:N.ts.length≤256
 tabs:∀ t∈N.ts,Qom t
 verts:∀ v∈N.vs,Qwf N.ts.length v
 arcs:∀ a∈N.ar,ArcOk N.vs.length a
 meet:∀ (i:Nat) v t,N.vs[i]?=some v→N.ts[v.2.2.toNat]?=some t→(cntTo N.ar i:Int)=t.ins∧(cntFr N.ar i:Int)=t.outs
attribute [local go_sem ↓] Go.wp_at_zero Go.wp_at_succ
def Wg (B:Nat)(w:World)(A:Option Addr)(k c:Nat):Prop:=∃ xs,Own w B 152 2 A k c xs∧(∀ u∈xs,u.oneCell'=true)∧k≤1000000
theorem Wg.none (B:Nat)(w:World):Wg B w none 0 0:=⟨[],Own.nil _ _ _ _,by simp,by omega⟩
theorem Wg.setCell {B:Nat}{w:World}{A:Option Addr}{k c:Nat}(h:Wg B w A k c){a:Addr}(ha:a.block<B)(u:Value):Wg B (w.setCell a u) A k c:=by obtain ⟨xs,h1,h2⟩:=h;exact ⟨xs,ownsRow_setCell_below h1 ha u,h2⟩
theorem Wg.mono {B B':Nat}{w:World}{A:Option Addr}{k c:Nat}(h:Wg B w A k c)(hB:B'≤B):Wg B' w A k c:=by obtain ⟨xs,h1,h2⟩:=h;exact ⟨xs,h1.mono hB,h2⟩
theorem Wg.alloc {B:Nat}{w:World}{A:Option Addr}{k c:Nat}(h:Wg B w A k c)(o:Obj):Wg B (w.alloc o) A k c:=by obtain ⟨xs,h1,h2⟩:=h;exact ⟨xs,h1.alloc o,h2⟩
def Qcz (G:Prop)(B:Nat)(e:Ending)(w:World):Prop:=∃ (A:Option Addr) (k c:Nat) (x:Int),e=.returned (.agg #[.slice A k c,.int .i64 x])∧Wg B w A k c∧((x=0∧G)∨x≠0)
theorem Qcz.no {G:Prop}{B:Nat}{w:World}{A:Option Addr}{k c:Nat}{x:Int}(hg:Wg B w A k c)(hx:x≠0):Qcz G B (.returned (.agg #[.slice A k c,.int .i64 x])) w:=⟨A,k,c,x,rfl,hg,.inr hx⟩
def Qbx (G:Prop)(e:Ending):Prop:=∃ (A:Option Addr) (k c:Nat) (x:Int),e=.returned (.agg #[.slice A k c,.int .i64 x])∧((x=0∧G)∨x≠0)
theorem Qbx.no {G:Prop}{A:Option Addr}{k c:Nat}{x:Int}(hx:x≠0):Qbx G (.returned (.agg #[.slice A k c,.int .i64 x])):=⟨A,k,c,x,rfl,.inr hx⟩
def RetAgg (B:Nat)(x:Int)(e:Ending)(w:World):Prop:=∃ (A:Option Addr) (k c:Nat),e=.returned (.agg #[.slice A k c,.int .i64 x])∧Wg B w A k c
theorem Qav (s:ByteArray)(k c:Int)(w:World):Calls prog 27 #[.string s,.int .i64 k,.int .i64 c] w fun e w'=>RetAgg w.heap.size c e w'∧Below w.heap.size w w':=by
 go_enter func27,ntmps27
 go_wp2;refine bodyPost_ret (v:=.agg #[.slice (some ⟨w.heap.size+1,0,none⟩) 1 1,.int .i64 c]) (by simp [results,results27,go_sem]) rfl ?_;refine ⟨⟨_,_,_,rfl,Wg.mono (B:=w.heap.size+1) ?_ (by omega)⟩,Qah⟩;have hz:∀ o,(w.alloc o).heap.size=w.heap.size+1:=fun o=>by show (w.heap.push o).size=_;exact Array.size_push ..
 have hO:=Own.lit (B:=w.heap.size+1) (s:=2) (e:=152) (w.alloc (.cells #[.slice (some ⟨w.heap.size+1,0,none⟩) 1 1,.int .i64 c] 66)) #[.string s,.int .i64 k] 1 (by rw [hz];exact Zn _) (by omega) rfl;rw [hz] at hO;refine ⟨_,hO,?_,by omega⟩;simp [Value.oneCell']
theorem Qzn {a:Int} (h:¬(0≤a∧a≤2147483648)):wOk a=(a == 1152921504606846976):=by unfold wOk;have:(decide (0≤a) && decide (a≤2147483648))=false:=by{cases e:(decide (0≤a) && decide (a≤2147483648));{rfl};{simp only [Bool.and_eq_true,decide_eq_true_eq] at e;exact absurd e h}};rw [this,Bool.false_or];by_cases h2:a=1152921504606846976;{simp [h2]};{rw [decide_eq_false h2];symm;simpa using h2}
theorem Qgb (a:Int)(w:World):Calls prog 91 #[.int .i64 a] w fun e w'=>e=.returned (.bool (wOk a))∧w=w':=by by_cases h0:0≤a;{by_cases h1:a≤2147483648;{(go_enter func91,ntmps91);go_wp2;go_ret;exact ⟨Qbh (by simp [wOk,h0,h1]),rfl⟩};{(go_enter func91,ntmps91);go_wp2;go_ret;exact ⟨Qbh (Qzn (by omega)).symm,rfl⟩}};{(go_enter func91,ntmps91);go_wp2;go_ret;exact ⟨Qbh (Qzn (by omega)).symm,rfl⟩}
theorem Qhe (a:Int)(w:World):Calls prog 95 #[.int .i64 a] w fun e w'=>e=.returned (.bool (wOk a))∧w=w':=by by_cases hI:a=1152921504606846976;{subst hI;(go_enter func95,ntmps95);go_wp2;go_ret;exact ⟨Qbh (by decide),rfl⟩};{(have h9:(a == 1152921504606846976)=false:=by simpa using hI);have HI:=Zh hI;clear hI;by_cases h0:0≤a;{(go_enter func95,ntmps95);go_wp2;go_ret;exact ⟨Qbh (by unfold wOk;rw [decide_eq_true h0,decide_eq_false HI.out];simp),rfl⟩};{(go_enter func95,ntmps95);go_wp2;go_ret;exact ⟨Qbh (by rw [Qzn (by omega)];exact h9.symm),rfl⟩}}
theorem Qoy (x:Int)(w:World):Calls prog 171 #[.int .i64 x] w fun e w'=>e=.returned (.bool (Qhd x))∧w=w':=by
 by_cases h1 : -1048576≤x
 all_goals
  go_enter func171,ntmps171
  go_wp2
  go_ret
  exact ⟨Qbh (by simp [Qhd];omega),rfl⟩
theorem far_ok (x:Int)(w:World)(h:Qhd x=true):Calls prog 173 #[.int .i64 x] w fun e w'=>e=.returned (.bool false)∧w=w':=by
 unfold Qhd at h;simp only [Bool.and_eq_true,decide_eq_true_eq] at h;obtain ⟨h1,h2⟩:=h;go_enter func173,ntmps173
 go_wp2;go_ret;exact ⟨Qbh (by simp;omega),rfl⟩
theorem Qqf (A B C:Option Addr)(n m k c d e:Nat)(v:Int)(w:World)(h0:0≤v)(h1:v<n) :
 Calls prog 174 #[.agg #[.slice A n c,.slice B m d,.slice C k e],.int .i64 v] w fun e w'=>e=.returned (.bool true)∧Below w.heap.size w w':=by
 go_enter func174,ntmps174
 go_wp2;go_ret;exact ⟨rfl,Qah⟩
theorem Qtu (i o:Int)(w:World)(i0:0≤i)(i16:i≤16)(o0:0≤o)(o16:o≤16):Calls prog 169 #[.int .i64 i,.int .i64 o] w fun e w'=>e=.returned .nilIface∧w=w':=by
 go_enter func169,ntmps169
 go_wp2;exact Kat
theorem Qpp {a b:Int}(a0:0≤a)(a16:a≤16)(b0:0≤b)(b16:b≤16):0≤a*b∧a*b≤256 :=
 ⟨Int.mul_nonneg a0 b0,by
  have h1:a*b≤16*b:=Int.mul_le_mul_of_nonneg_right a16 b0;omega⟩
set_option maxHeartbeats 1000000 in
theorem Qqe (A:Option Addr)(n c:Nat)(t:Qft)(w:World)(h:RdI w A n t.costs)(ht:Qom t) :
 Calls prog 146 #[.agg #[.int .i64 t.ins,.int .i64 t.outs,.slice A n c]] w fun e w'=>e=.returned .nilIface∧Below w.heap.size w w':=by
 obtain ⟨i,o,cs⟩:=t;have i0:0≤i:=ht.i0;have i16:i≤16:=ht.i16;have o0:0≤o:=ht.o0;have o16:o≤16:=ht.o16;have hm:=Qpp i0 i16 o0 o16;have hl:(cs.length:Int)=i*o:=ht.len;have h:RdI w A n cs:=h;rw [h.1] at hl;have hok:=ht.ok;simp only at hok;have HOK:=Zh hok;have HL:=Zh hl;have j1:IntKind.i64.wrap (i*o)=i*o:=IntWalk.i64_in _ (by omega);have j2:((n:Int) != i*o)=false:=by simpa using hl
 have j3:((n:Int) == i*o)=true:=by simpa using hl
 have HSD:=Zh (show ∀ V,Calls prog 169 #[.int .i64 i,.int .i64 o] V fun e w'=>e=.returned .nilIface∧V=w' from fun V=>Qtu i o V i0 i16 o0 o16);have hn:n≤256:=by omega
 clear hok hl ht;go_enter func146,ntmps146
 go_wp2_with fail
 (refine Qac ?_;intro w1 hw1);have hb1:Below w.heap.size w w1:=by rw [hw1];exact Qah
 have hB1:Blk w1 w.heap.size 193 #[.int .i64 i,.int .i64 o,.slice A n c]:=by rw [hw1];exact Blk.new _ _ _
 clear hw1;with_reducible refine (HSD.out _).mono ?_
 rintro e w' ⟨rfl,rfl⟩;have c0:=hB1.cell 0;have c1:=hB1.cell 1;have c2:=hB1.cell 2;simp only [Yo,Yn,List.getElem?_cons_succ] at c0 c1 c2;have h1:=h.below hb1;go_wp2_with fail
 go_loop [27] (fun q=>∃ k:Nat,k≤n∧q=.int .i64 k) (fun q=>n-(intOf q).toNat)
 case atStart=>exact ⟨0,Nat.zero_le _,rfl⟩
 case round =>
  obtain ⟨k,hk,rfl⟩:=hrel;by_cases hlt:k<n
  · obtain ⟨b,oo,x,rfl,hx,hc⟩:=h1.at_ hlt
    have HW:=Zh (show ∀ V,Calls prog 95 #[.int .i64 x] V fun e w'=>e=.returned (.bool true)∧V=w' from fun V=>by
     have:=Qhe x V;rw [HOK.out x (Zm hx)] at this;exact this)
    (have i1:0≤(k:Int):=by omega);(have i2:(k:Int)<n:=by omega);clear hx;(go_wp2_with fail);(with_reducible refine (HW.out _).mono ?_);rintro e w' ⟨rfl,rfl⟩;(go_wp2_with fail);(go_round);(case rel=>exact ⟨k+1,by omega,by go_num⟩);case measure=>simp [intOf];omega
  {(go_wp2_with fail);go_ret;exact ⟨rfl,hb1⟩}
theorem Blk.three {w:World}{g:Nat}{t:TypeId}{a b c:Value} (h:Blk w g t #[a,b,c]):w.cell? ⟨g,0,none⟩=some a∧w.cell? ⟨g,1,none⟩=some b∧w.cell? ⟨g,2,none⟩=some c :=
 ⟨Zq h,Zq h,Zq h⟩
def Qqt (f:Tri→Int)(l:List Tri)(n:Nat):List Int:=(List.range n).map (fun v:Nat=>((l.countP (fun a=>f a == (v:Int)):Nat):Int))
theorem Qjh (f:Tri→Int)(l:List Tri)(n:Nat):(Qqt f l n).length=n:=by simp [Qqt]
theorem Qdb {f:Tri→Int}{l:List Tri}{n v:Nat}(h:v<n):(Qqt f l n)[v]?=some ((l.countP (fun a=>f a == (v:Int)):Nat):Int):=by unfold Qqt;rw [Yt,List.getElem?_range h];rfl
theorem Qht (f:Tri→Int)(n:Nat):Qcf (Qqt f [] n)=Qbs (.int .i64 0) n:=by
 rw [Qcd];congr 1
 apply List.ext_getElem?;intro i;rcases Nat.lt_or_ge i n with h|h
 {rw [Qdb h];simp [h]};{rw [Yd (by rw [Qjh];exact h),Yd (by simpa using h)]}
theorem Qhs {f:Tri→Int}{l:List Tri}{n v k:Nat}{a:Tri} (ha:l[k]?=some a) (hv:f a=(v:Int)) (h:v<n) :
 (Qqt f (l.take k) n).set v ((((l.take k).countP (fun a=>f a == (v:Int)):Nat):Int)+1)=Qqt f (l.take (k+1)) n:=by
 apply List.ext_getElem?;intro i;rw [Yf (Zs ha).1,(Zs ha).2];rcases Nat.lt_or_ge i n with hi|hi
 {rw [Qdb hi,List.countP_append];by_cases e:v=i;{subst e;rw [Yg (by rw [Qjh];exact h)];simp [hv]};{rw [Yh e,Qdb hi];(have:(f a == (i:Int))=false:=by rw [hv];simp;omega);simp [this]}};{rw [Yd (by rw [Yq,Qjh];exact hi),Yd (by rw [Qjh];exact hi)]}
theorem Qkc (f:Tri→Int)(l:List Tri)(k:Nat)(v:Int):(l.take k).countP (fun a=>f a == v)≤k:=Yx List.countP_le_length (List.length_take_le _ _)
set_option maxHeartbeats 4000000 in
set_option maxRecDepth 100000 in
theorem meet_ok (A B C:Option Addr)(n m k c d e:Nat)(N:Qam)(w:World)(h:Qbz w A B C n m k N)(hN:Qap N) :
 Calls prog 175 #[.agg #[.slice A n c,.slice B m d,.slice C k e]] w fun e w'=>e=.returned .nilIface∧Below w.heap.size w w':=by
 obtain ⟨hv,ha,ht⟩:=h;have HLV:=Zh hv.1;have HLA:=Zh ha.1;have HLT:=Zh ht.1;have hn:n≤4096:=by rw [←hv.1];exact hN.lv
 have hm:m≤16384:=by rw [←ha.1];exact hN.la
 have hmk:=Qdg n (by omega);have HN:=Zh hN;clear hN;go_enter func175,ntmps175
 go_wp2_with fail
 (refine Qaj ?_;intro w1 hw1);have hb1:Below w.heap.size w w1:=by rw [hw1];exact Qah
 have hN1:Blk w1 w.heap.size 177 #[.slice A n c,.slice B m d,.slice C k e]:=by rw [hw1];exact Qbi
 have hI1:Blk w1 (w.heap.size+1) 3 (Qbs (.int .i64 0) n):=by rw [hw1];exact Qbi
 have hO1:Blk w1 (w.heap.size+1+1) 3 (Qbs (.int .i64 0) n):=by rw [hw1];exact Qbi
 clear hw1 hmk;go_loopw [21] (fun q W=>∃ i:Nat,i≤m∧q=.int .i64 i∧Below w.heap.size w W∧Blk W w.heap.size 177 #[.slice A n c,.slice B m d,.slice C k e]∧Blk W (w.heap.size+1) 3 (Qcf (Qqt (·.2.1) (N.ar.take i) n))∧Blk W (w.heap.size+1+1) 3 (Qcf (Qqt (·.1) (N.ar.take i) n))) (fun q _=>m-(intOf q).toNat)
 case atStart=>exact ⟨0,Nat.zero_le _,rfl,hb1,hN1,by rw [List.take_zero,Qht];exact hI1,by rw [List.take_zero,Qht];exact hO1⟩
 case round =>
  clear hb1 hN1 hI1 hO1;obtain ⟨i,hi,rfl,hbl,hNN,hI,hO⟩:=hrel;by_cases hlt:i<m
  {obtain ⟨b,o,x,y,z,rfl,hx,cx,cy,cz⟩:=(ha.below hbl).at_ hlt;(have hok:=HN.out.arcs _ (Zm hx);have f0:=hok.f0;have f1:=hok.f1;have g0:=hok.g0;have g1:=hok.g1;simp only at f0 f1 g0 g1;rw [HLV.out] at f1 g1;obtain ⟨u,rfl⟩:∃ u:Nat,x=u:=⟨x.toNat,by omega⟩;obtain ⟨v,rfl⟩:∃ v:Nat,y=v:=⟨y.toNat,by omega⟩;have hu:u<n:=by omega);(have hvn:v<n:=by omega);(have hx1:=Qhs (f:=(·.2.1)) (n:=n) (v:=v) hx rfl hvn;have hx2:=Qhs (f:=(·.1)) (n:=n) (v:=u) hx rfl hu;have c1:=hI.cellI (Qdb (f:=(·.2.1)) (l:=N.ar.take i) hvn);have c2:=hO.cellI (Qdb (f:=(·.1)) (l:=N.ar.take i) hu);have d1:=Qkc (·.2.1) N.ar i v;have d2:=Qkc (·.1) N.ar i u;have HX1:=Zh hx1;have HX2:=Zh hx2;clear hx1 hx2;generalize (N.ar.take i).countP (fun a=>a.2.1 == (v:Int))=p at *;generalize (N.ar.take i).countP (fun a=>a.1 == (u:Int))=q at *;have q1:=hI.frozen v;have q2:=hO.frozen u;have z1:=hI.lt;have z2:=hO.lt;have i1:0≤(i:Int):=by omega);(have i2:(i:Int)<m:=by omega);(have hz:=hbl.size;obtain ⟨W2,hW2⟩:=Zx (((wr.setCell ⟨w.heap.size+1,v,none⟩ (.int .i64 ((p:Int)+1))).setCell ⟨w.heap.size+1+1,u,none⟩ (.int .i64 ((q:Int)+1))).alloc (.cells #[.int .i64 u,.int .i64 v,.int .i64 z] 186));have HW2:=Zh hW2;have hb2:Below w.heap.size w W2:=by rw [hW2];exact Bel.alloc ((hbl.setCell (by simp only;omega) _).setCell (by simp only;omega) _));(have hN2:Blk W2 w.heap.size 177 #[.slice A n c,.slice (some ⟨b,o,none⟩) m d,.slice C k e]:=by rw [hW2];exact Qnd);have hI2:Blk W2 (w.heap.size+1) 3 (Qcf (Qqt (·.2.1) (N.ar.take (i+1)) n)):=by{rw [hW2];exact ((hI.setI HX1.out).far_ (by omega) _).alloc _};have hO2:Blk W2 (w.heap.size+1+1) 3 (Qcf (Qqt (·.1) (N.ar.take (i+1)) n)):=by{rw [hW2];exact (Blk.setI (hO.far_ (by omega) _) HX2.out).alloc _};have HI2:=Zh hI2;have HO2:=Zh hO2;have HN2:=Zh hN2;clear hW2 hx hok hI hO hNN hI2 hO2 hN2;(go_wp2_with fail);rw [←HW2.out];go_roundw;(case rel=>exact ⟨i+1,by omega,by go_num,hb2,HN2.out,HI2.out,HO2.out⟩);case measure=>simp [intOf];omega};{(obtain rfl:i=m:=by omega);rw [Ye (by rw [HLA.out];exact Zn _)] at hI hO;obtain ⟨w2,hw2⟩:=Zx wr;subst hw2;obtain ⟨n0,n1,n2⟩:=hNN.three;(go_wp2_with fail);clear n0 n1 n2;have hv2:=hv.below hbl;have ht2:=ht.below hbl;(go_loopw [43] (fun q W=>∃ j:Nat,j≤n∧q=.int .i64 j∧Below w2.heap.size w2 W) (fun q _=>n-(intOf q).toNat));(case atStart=>exact ⟨0,Nat.zero_le _,rfl,Zr _ _⟩);case round =>obtain ⟨j,hj,rfl,hb2⟩:=hrel;(by_cases hlt2:j<n);{obtain ⟨b,o,x,y,z,rfl,hx,cx,cy,cz⟩:=(hv2.below hb2).at_ hlt2;(have hok:=HN.out.verts _ (Zm hx);have t0:=hok.t0;have t1:=hok.t1;simp only at t0 t1;rw [HLT.out] at t1;obtain ⟨u,rfl⟩:∃ u:Nat,z=u:=⟨z.toNat,by omega⟩;have hu:u<k:=by omega);obtain ⟨b',o',t,rfl,htt,k0,k1,A',n',c',k2,_,_,_⟩:=(ht2.below hb2).at_ hu;have hm1:=HN.out.meet j _ t hx (by simpa using htt);have hT:=HN.out.tabs t (Zm htt);have m1:(cntTo N.ar j:Int)=t.ins:=hm1.1;have m2:(cntFr N.ar j:Int)=t.outs:=hm1.2;have b1:=hT.i16;have b2:=hT.o16;have b3:=hT.i0;have b4:=hT.o0;have hIr:=hI.below hb2 hI.lt;have hOr:=hO.below hb2 hO.lt;have hNr:=hNN.below hb2 hNN.lt;obtain ⟨_,_,n2⟩:=hNr.three;have c1:=hIr.cellI (Qdb (f:=(·.2.1)) (l:=N.ar) hlt2);have c2:=hOr.cellI (Qdb (f:=(·.1)) (l:=N.ar) hlt2);have HC:=Zh (show ∀ V,Below wr.heap.size wr V→V.cell? ⟨w.heap.size+1,j,none⟩=some (.int .i64 ((N.ar.countP (fun a=>a.2.1 == (j:Int)):Nat):Int))∧V.cell? ⟨w.heap.size+1+1,j,none⟩=some (.int .i64 ((N.ar.countP (fun a=>a.1 == (j:Int)):Nat):Int)) from fun V hV=>⟨Zc hV (Zn _) c1,Zc hV (Zn _) c2⟩);(unfold cntTo at m1;unfold cntFr at m2;generalize N.ar.countP (fun a=>a.2.1 == (j:Int))=p at *;generalize N.ar.countP (fun a=>a.1 == (j:Int))=q at *;obtain ⟨ti,to_,tc⟩:=t;simp only at m1 m2 b1 b2 b3 b4 k0 k1;subst m1;subst m2;have z0:=hNr.lt;have z1:=hIr.lt;have z2:=hOr.lt;have i1:0≤(j:Int):=by omega);(have i2:(j:Int)<n:=by omega);(have i3:0≤(u:Int):=by omega);(have i4:(u:Int)<k:=by omega);(have zb:b'<wr.heap.size:=Qak k0);clear hx hok htt hm1 hT hNr;(go_wp2_with fail);(refine Qaj ?_;intro w3 hw3);(have hb3:Below wr.heap.size wr w3:=by rw [hw3];exact Qah);(have hT3:Blk w3 (wr.heap.size+1) 193 #[.int .i64 p,.int .i64 q,.slice A' n' c']:=by rw [hw3];exact Qbi);(obtain ⟨c1',c2'⟩:=HC.out w3 hb3;obtain ⟨t0',t1',t2'⟩:=hT3.three;clear hw3 c1 c2 cx cy cz k0 k1 k2 n2;have d1:(((p:Nat):Int) != ((p:Nat):Int))=false:=by simp);(have d2:(((q:Nat):Int) != ((q:Nat):Int))=false:=by simp);(go_wp2_with fail);(go_quiet (fail));(go_wp2_with fail);go_roundw;(case rel=>exact ⟨j+1,by omega,by go_num,Qay (Zb hb2 hb3) _⟩);case measure=>simp [intOf];omega};{(go_wp2_with fail);go_ret;exact ⟨rfl,Zb hbl hb2⟩}}
set_option maxHeartbeats 4000000 in
set_option maxRecDepth 100000 in
theorem Qrs (A B C:Option Addr)(n m k c d e:Nat)(N:Qam)(w:World)(h:Qbz w A B C n m k N)(hN:Qap N) :
 Calls prog 136 #[.agg #[.slice A n c,.slice B m d,.slice C k e]] w fun e w'=>e=.returned .nilIface∧Below w.heap.size w w':=by
 have HH:=Zh h;have HLV:=Zh h.1.1;have HLA:=Zh h.2.1.1;have HLT:=Zh h.2.2.1;have hn:n≤4096:=by rw [←h.1.1];exact hN.lv
 have hm:m≤16384:=by rw [←h.2.1.1];exact hN.la
 have hk:k≤256:=by rw [←h.2.2.1];exact hN.lt
 have j0:¬(n:Int) > 4096:=by omega
 have j1:¬(m:Int) > 16384:=by omega
 have j2:¬(k:Int) > 256:=by omega
 have HN:=Zh hN;clear hN h;go_enter func136,ntmps136
 go_wp2_with fail
 (refine Qaj ?_;intro w1 hw1);have hb1:Below w.heap.size w w1:=by rw [hw1];exact Qah
 have hN1:Blk w1 w.heap.size 177 #[.slice A n c,.slice B m d,.slice C k e]:=by rw [hw1];exact Blk.new _ _ _
 have H1:=Zh (HH.out.below hb1);clear hw1 j0 j1 j2;go_loopw [34] (fun q W=>∃ i:Nat,i≤k∧q=.int .i64 i∧Below w1.heap.size w1 W) (fun q _=>k-(intOf q).toNat)
 case atStart=>exact ⟨0,Nat.zero_le _,rfl,Zr _ _⟩
 case round =>
  obtain ⟨i,hi,rfl,hbl⟩:=hrel;by_cases hlt:i<k
  {obtain ⟨b,o,t,rfl,ht,k0,k1,A',n',c',k2,hr,_,_⟩:=(H1.out.2.2.below hbl).at_ hlt;(have i1:0≤(i:Int):=by omega);(have i2:(i:Int)<k:=by omega);have hT:=HN.out.tabs t (Zm ht);have HTC:=Zh (show ∀ V,Below wr.heap.size wr V→Calls prog 146 #[.agg #[.int .i64 t.ins,.int .i64 t.outs,.slice A' n' c']] V fun e w'=>e=.returned .nilIface∧Below V.heap.size V w' from fun V hV=>Qqe A' n' c' t V (hr.below hV) hT);clear ht hT;(go_wp2_with fail);(refine Qac ?_;intro w2 hw2);(have hb2:Below wr.heap.size wr w2:=by rw [hw2];exact Qah);(clear hw2;with_reducible refine (HTC.out w2 hb2).mono ?_);rintro e w3 ⟨rfl,hb3⟩;(go_wp2_with fail);go_roundw;(case rel=>exact ⟨i+1,by omega,by go_num,Zb hbl (Zb hb2 hb3)⟩);case measure=>simp [intOf];omega}
  · obtain ⟨w2,hw2⟩:=Zx wr;subst hw2;obtain ⟨n0,n1,n2⟩:=(hN1.below hbl hN1.lt).three;(go_wp2_with fail);clear n0 n1 n2;(go_loopw [50] (fun q W=>∃ j:Nat,j≤n∧q=.int .i64 j∧Below w1.heap.size w1 W) (fun q _=>n-(intOf q).toNat));case atStart=>exact ⟨0,Nat.zero_le _,rfl,hbl⟩
    case round =>
     clear hbl;obtain ⟨j,hj,rfl,hbl⟩:=hrel;have hNr:=hN1.below hbl hN1.lt;obtain ⟨n0,n1,n2⟩:=hNr.three;have zz:=hNr.lt;(by_cases hlt2:j<n);{obtain ⟨b,o,x,y,z,rfl,hx,cx,cy,cz⟩:=(H1.out.1.below hbl).at_ hlt2;have hok:=HN.out.verts _ (Zm hx);have t0:=hok.t0;have t1:=hok.t1;simp only at t0 t1;rw [HLT.out] at t1;have HF1:=Zh (show ∀ V,Calls prog 173 #[.int .i64 x] V fun e w'=>e=.returned (.bool false)∧V=w' from fun V=>far_ok x V hok.x);have HF2:=Zh (show ∀ V,Calls prog 173 #[.int .i64 y] V fun e w'=>e=.returned (.bool false)∧V=w' from fun V=>far_ok y V hok.y);(have i1:0≤(j:Int):=by omega);(have i2:(j:Int)<n:=by omega);(have t2:¬z<0:=by omega);(have t3:¬z ≥ (k:Int):=by omega);clear hx hok hNr;(go_wp2_with fail);(with_reducible refine (HF1.out _).mono ?_);rintro e w' ⟨rfl,rfl⟩;(go_wp2_with fail);(with_reducible refine (HF2.out _).mono ?_);rintro e w' ⟨rfl,rfl⟩;(go_wp2_with fail);go_roundw;(case rel=>exact ⟨j+1,by omega,by go_num,Bel.alloc hbl⟩);case measure=>simp [intOf];omega}
     · obtain ⟨w3,hw3⟩:=Zx wr;subst hw3;clear zz hNr;(go_wp2_with fail);clear n0 n1 n2;(go_loopw [86] (fun q W=>∃ j:Nat,j≤m∧q=.int .i64 j∧Below w1.heap.size w1 W) (fun q _=>m-(intOf q).toNat));case atStart=>exact ⟨0,Nat.zero_le _,rfl,hbl⟩
       case round =>
        clear hbl;obtain ⟨q,hq,rfl,hbl⟩:=hrel;have hNr:=hN1.below hbl hN1.lt;obtain ⟨n0,n1,n2⟩:=hNr.three;have zz:=hNr.lt;by_cases hlt3:q<m
        · obtain ⟨b,o,x,y,z,rfl,hx,cx,cy,cz⟩:=(H1.out.2.1.below hbl).at_ hlt3;have hok:=HN.out.arcs _ (Zm hx);have HV1:=Zh (show ∀ V,Calls prog 174 #[.agg #[.slice A n c,.slice (some ⟨b,o,none⟩) m d,.slice C k e],.int .i64 x] V fun e w'=>e=.returned (.bool true)∧Below V.heap.size V w' from fun V=>Qqf A _ C n m k c d e x V hok.f0 (by have:=hok.f1;rw [HLV.out] at this;exact this));have HV2:=Zh (show ∀ V,Calls prog 174 #[.agg #[.slice A n c,.slice (some ⟨b,o,none⟩) m d,.slice C k e],.int .i64 y] V fun e w'=>e=.returned (.bool true)∧Below V.heap.size V w' from fun V=>Qqf A _ C n m k c d e y V hok.g0 (by have:=hok.g1;rw [HLV.out] at this;exact this))
          have HW:=Zh (show ∀ V,Calls prog 95 #[.int .i64 z] V fun e w'=>e=.returned (.bool true)∧V=w' from fun V=>by
           have:=Qhe z V;rw [hok.w] at this;exact this)
          (have i1:0≤(q:Int):=by omega);(have i2:(q:Int)<m:=by omega);clear hx hok;(go_wp2_with fail);(refine Qac ?_;intro w4 hw4);(have hb4:Below wr.heap.size wr w4:=by rw [hw4];exact Qah);(have hA4:Blk w4 wr.heap.size 186 #[.int .i64 x,.int .i64 y,.int .i64 z]:=by rw [hw4];exact Qbi);(clear hw4;with_reducible refine (HV1.out w4).mono ?_);rintro e w5 ⟨rfl,hb5⟩;have hb45:Below wr.heap.size wr w5:=Zb hb4 hb5;have hA5:=hA4.below hb5 hA4.lt;have hN5:=hNr.below hb45 hNr.lt;clear n0 n1 n2;obtain ⟨n0,n1,n2⟩:=hN5.three;obtain ⟨a0,a1,a2⟩:=hA5.three;clear hA4 hb4 hb5;(go_wp2_with fail);(with_reducible refine (HV2.out w5).mono ?_);rintro e w6 ⟨rfl,hb6⟩;have hb46:Below wr.heap.size wr w6:=Zb hb45 hb6;obtain ⟨_,_,a2'⟩:=(hA5.below hb6 hA5.lt).three;clear a0 a1 a2 n0 n1 n2 hb6 hb45;(go_wp2_with fail);(with_reducible refine (HW.out _).mono ?_);rintro e w' ⟨rfl,rfl⟩;(go_wp2_with fail);go_roundw;(case rel=>exact ⟨q+1,by omega,by go_num,Zb hbl hb46⟩);case measure=>simp [intOf];omega
        {have HM:=Zh (meet_ok A B C n m k c d e N wr (H1.out.below hbl) HN.out);clear zz hNr;(go_wp2_with fail);(with_reducible refine HM.out.mono ?_);rintro e w4 ⟨rfl,hb4⟩;(go_wp2_with fail);go_ret;exact ⟨rfl,Zb hb1 (Zb hbl hb4)⟩}
set_option maxHeartbeats 1000000 in
theorem Qir (A:Option Addr)(n c:Nat)(t:Qft)(w:World)(h:RdI w A n t.costs)(hn:n≤9223372036854775807) :
 Calls prog 170 #[.agg #[.int .i64 t.ins,.int .i64 t.outs,.slice A n c]] w fun e w'=>Qcz (Qom t) w.heap.size e w'∧Below w.heap.size w w':=by
 obtain ⟨i,o,cs⟩:=t;have h:RdI w A n cs:=h;simp only;by_cases i0:i<0
 {(go_enter func170,ntmps170);(go_wp2_with fail);(refine Qac ?_;intro w5 hw5);(have hB5:Blk w5 (w.heap.size+1) 66 #[.slice none 0 0,.int .i64 0]:=by rw [hw5];exact Qbi);(have hb5:Below w.heap.size w w5:=by rw [hw5];exact Qah);exact Kai};by_cases i1:i > 16;{(go_enter func170,ntmps170);(go_wp2_with fail);(refine Qac ?_;intro w5 hw5);(have hB5:Blk w5 (w.heap.size+1) 66 #[.slice none 0 0,.int .i64 0]:=by rw [hw5];exact Qbi);(have hb5:Below w.heap.size w w5:=by rw [hw5];exact Qah);exact Kai};by_cases o0:o<0
 {(go_enter func170,ntmps170);(go_wp2_with fail);(refine Qac ?_;intro w5 hw5);(have hB5:Blk w5 (w.heap.size+1) 66 #[.slice none 0 0,.int .i64 0]:=by rw [hw5];exact Qbi);(have hb5:Below w.heap.size w w5:=by rw [hw5];exact Qah);exact Kai};by_cases o1:o > 16;{(go_enter func170,ntmps170);(go_wp2_with fail);(refine Qac ?_;intro w5 hw5);(have hB5:Blk w5 (w.heap.size+1) 66 #[.slice none 0 0,.int .i64 0]:=by rw [hw5];exact Qbi);(have hb5:Below w.heap.size w w5:=by rw [hw5];exact Qah);exact Kai};have hm:=Qpp (a:=i) (b:=o) (by omega) (by omega) (by omega) (by omega);have j1:IntKind.i64.wrap (i*o)=i*o:=IntWalk.i64_in _ (by omega);by_cases hl:(n:Int)=i*o;rotate_left;{(have j2:((n:Int) != i*o)=true:=by simpa using hl);(have j3:((n:Int) == i*o)=false:=by simpa using hl);clear hl;(go_enter func170,ntmps170);(go_wp2_with fail);(refine Qac ?_;intro w5 hw5);(have hB5:Blk w5 (w.heap.size+1) 66 #[.slice none 0 0,.int .i64 0]:=by rw [hw5];exact Qbi);(have hb5:Below w.heap.size w w5:=by rw [hw5];exact Qah);(clear hw5;with_reducible refine (Qav _ _ _ _).mono ?_);rintro e w2 ⟨⟨A4,n4,m4,rfl,hg4⟩,hb⟩;have hB2:=Blk.below hB5 hb hB5.lt;obtain ⟨c0,c1,f0,f1⟩:=hB2.two;have hb2:Below w.heap.size w w2:=Zb hb5 hb;(go_wp2_with fail);refine bodyPost_ret (v:=.agg #[.slice A4 n4 m4,.int .i64 9]) (by simp [results,results170,go_sem,c0,c1]) rfl ?_;exact Kad};have j2:((n:Int) != i*o)=false:=by simpa using hl
 have j3:((n:Int) == i*o)=true:=by simpa using hl
 have hn:n≤256:=by omega
 have HL:=Zh hl;clear hl;go_enter func170,ntmps170
 go_wp2_with fail
 (refine Qaj ?_;intro w1 hw1);have hb1:Below w.heap.size w w1:=by rw [hw1];exact Qah
 have hT1:Blk w1 w.heap.size 122 #[.int .i64 i,.int .i64 o,.slice A n c]:=by rw [hw1];exact Qbi
 have hB1:Blk w1 (w.heap.size+1) 66 #[.slice none 0 0,.int .i64 0]:=by rw [hw1];exact Qbi
 clear hw1;go_loopw [3] (fun q W=>∃ k:Nat,k≤n∧q=.int .i64 k∧Below w.heap.size w W∧Blk W w.heap.size 122 #[.int .i64 i,.int .i64 o,.slice A n c]∧Blk W (w.heap.size+1) 66 #[.slice none 0 0,.int .i64 0]∧∀ j x,j<k→cs[j]?=some x→wOk x=true) (fun q _=>n-(intOf q).toNat)
 case atStart=>exact ⟨0,Nat.zero_le _,rfl,hb1,hT1,hB1,fun _ _ h=>absurd h (Nat.not_lt_zero _)⟩
 case round =>
  clear hb1 hT1 hB1;obtain ⟨k,hk,rfl,hbl,hT,hB,hall⟩:=hrel;have HA:=Zh hall;clear hall;obtain ⟨t0,t1,t2⟩:=hT.three;have zT:=hT.lt;by_cases hlt:k<n
  · obtain ⟨b,oo,x,rfl,hx,hc⟩:=(h.below hbl).at_ hlt;(have i2:0≤(k:Int):=by omega);(have i3:(k:Int)<n:=by omega);have HX:=Zh hx;clear hx;cases hw:wOk x
    · have HW:=Zh (show ∀ V,Calls prog 91 #[.int .i64 x] V fun e w'=>e=.returned (.bool false)∧V=w' from fun V=>by
       have:=Qgb x V;rw [hw] at this;exact this)
      (go_wp2_with fail);(with_reducible refine (HW.out _).mono ?_);rintro e w' ⟨rfl,rfl⟩;(go_wp2_with fail);(refine Qac ?_;intro w5 hw5);(have hB5:Blk w5 (w.heap.size+1) 66 #[.slice none 0 0,.int .i64 0]:=by rw [hw5];exact Qbi);(have hb5:Below w.heap.size w w5:=by rw [hw5];exact Qah);(clear hw5;with_reducible refine (Qav _ _ _ _).mono ?_);rintro e w2 ⟨⟨A4,n4,m4,rfl,hg4⟩,hb⟩;have hB2:=Blk.below hB5 hb hB5.lt;obtain ⟨c0,c1,f0,f1⟩:=hB2.two;have hb2:Below w.heap.size w w2:=Zb hb5 hb;(go_wp2_with fail);refine bodyPost_ret (v:=.agg #[.slice A4 n4 m4,.int .i64 8]) (by simp [results,results170,go_sem,c0,c1]) rfl ?_;first | exact ⟨Qbx.no (by decide),Qah⟩ | exact ⟨Qcz.no (Wg.mono (B:=w5.heap.size) (Wg.setCell (Wg.setCell hg4 hB5.lt _) hB5.lt _) hb5.size) (by decide),Qah⟩
    · have HW:=Zh (show ∀ V,Calls prog 91 #[.int .i64 x] V fun e w'=>e=.returned (.bool true)∧V=w' from fun V=>by
       have:=Qgb x V;rw [hw] at this;exact this)
      have HW2:=Zh hw;clear hw;(go_wp2_with fail);(with_reducible refine (HW.out _).mono ?_);rintro e w' ⟨rfl,rfl⟩;(go_wp2_with fail);go_roundw;(case rel =>refine ⟨k+1,by omega,by go_num,hbl,hT,hB,fun j y hj hy=>?_⟩;by_cases e:j=k;{subst e;rw [HX.out] at hy;cases hy;exact HW2.out};{exact HA.out j y (by omega) hy});case measure=>simp [intOf];omega
  {(obtain rfl:k=n:=by omega);have zB:=hB.lt;obtain ⟨c0,c1,f0,f1⟩:=hB.two;(go_wp2_with fail);refine bodyPost_ret (v:=.agg #[.slice none 0 0,.int .i64 0]) (by simp [results,results170,go_sem,c0,c1]) rfl ?_;refine ⟨⟨_,_,_,_,rfl,Wg.none _ _,.inl ⟨rfl,⟨by simp only;omega,by simp only;omega,by simp only;omega,by simp only;omega,?_,?_⟩⟩⟩,Qah⟩;{simp only;rw [h.1];exact HL.out};{intro y hy;obtain ⟨j,hj⟩:=Yr hy;exact HA.out j y (by rw [←h.1];exact (Zs hj).1) hj}}
theorem infoPart:(Tryz.prog.info? 152).map (fun i=>(i.zero,i.size,i.bytes))=some (some (.agg #[.string ⟨#[]⟩,.int .i64 0]),2,24):=by kernel_rfl
set_option maxHeartbeats 1000000 in
theorem Qny (s:ByteArray)(at_:Int)(A:Option Addr)(k c B:Nat)(x:Int)(w:World)(hx:x≠0)(hg:Wg B w A k c) :
 Calls prog 97 #[.string s,.int .i64 at_,.agg #[.slice A k c,.int .i64 x]] w fun e w'=>(∃ A' k' c',e=.returned (.agg #[.slice A' k' c',.int .i64 x]))∧Below w.heap.size w w':=by
 obtain ⟨xs,ho,hone,hk⟩:=hg;have hr:=ho.rds;have HR:=Zh hr;have HO:=Zh hone;clear ho hone hr;go_enter func97,ntmps97
 go_wp2_with fail
 (refine Qaj ?_;intro w1 hw1);have hb1:Below w.heap.size w w1:=by rw [hw1];exact Qah
 have hT1:Blk w1 w.heap.size 66 #[.slice A k c,.int .i64 x]:=by rw [hw1];exact Qbi
 have hB1:Blk w1 (w.heap.size+1) 66 #[.slice none 0 0,.int .i64 0]:=by rw [hw1];exact Qbi
 have hz1:w1.heap.size=w.heap.size+1+1:=by rw [hw1];simp
 clear hw1;obtain ⟨t0,t1,_,_⟩:=hT1.two;go_wp2_with fail
 have hb0:Below (w.heap.size+1) w1 w1.drew:=(Zr _ _).drew;have HSX:=Zh (show ∀ V,Below (w.heap.size+1) w1 V→V.cell? ⟨w.heap.size,0,none⟩=some (.slice A k c)∧V.cell? ⟨w.heap.size,1,none⟩=some (.int .i64 x) from fun V hV=>⟨(hV.cell (Nat.lt_succ_self _)).trans t0,(hV.cell (Nat.lt_succ_self _)).trans t1⟩);refine wp_region_held_drew (S:=fun V=>Below (w.heap.size+1) w1 V) (by kernel_rfl) hb0 (fun _=>?_);refine tzb 0 11 ?_;refine tz 2 13 ?_;refine tzb 4 15 ?_;refine tzb 7 18 ?_;refine Zk 3 (fun K hK=>?_);go_simp;obtain ⟨W,hW⟩:=Zx ((w1.alloc (.cells #[.string s,.int .i64 at_] 152)).drew);rw [←hW];have hownW:Own W (w.heap.size+1+1) 152 2 (some ⟨w1.heap.size,0,none⟩) 1 1 [.string s,.int .i64 at_]:=by{rw [hW];exact Own.drew (Own.lit w1 #[.string s,.int .i64 at_] 1 (by omega) (by omega) rfl)};rw [hz1] at hownW;have hbW:Below (w.heap.size+1) w1 W:=by rw [hW];exact ((Zr _ _).alloc (by omega) _).drew
 have hB2:Blk W (w.heap.size+1) 66 #[.slice none 0 0,.int .i64 0]:=by rw [hW];exact Qnd
 have hrW:Rds W 2 A k xs:=HR.out.below (hb1.trans (hbW.mono (by omega)));have hzW:w.heap.size+1+1≤W.heap.size:=by have:=hbW.size;omega
 have hbwW:Below w.heap.size w W:=hb1.trans (hbW.mono (by omega));clear hW;refine hK.out _ _ hbW (fun _=>?_);clear hK K;refine Zk 6 (fun K hK=>?_);with_reducible refine Qax (some 17) rfl rfl (.tmp 14) (.tmp 16) 64 rfl 152 _ 2 24 infoPart underlying64 rfl (by omega) rfl rfl hownW hrW HO.out (by omega) (by omega) hzW ?_
 intro A' c' w' hown' hg' _;have hb5:Below (w.heap.size+1) w1 w':=Zo hbW hg' (hownW.mono (by omega)) (by omega);have hb6:Below w.heap.size w w':=Zo hbwW hg' (hownW.mono (by omega)) (by omega);have hB':=hB2.grown hg' (hownW.ne (by omega));refine hK.out _ _ hb5 (fun _=>?_);clear hK K hownW hrW hg' hown';simp only [Act.put,Yi,Yj,Yk];obtain ⟨c0,c1,f0,f1⟩:=hB'.two;refine tz 9 20 ?_;refine Zk 10 (fun K hK=>?_);go_simp;refine hK.out _ _ ((hb5.setCell (by simp only;omega) _).setCell (by simp only;omega) _) (fun _=>?_);clear hK K;refine Zd ?_;go_wp2_with fail
 refine bodyPost_ret (v:=.agg #[.slice A' (1+k) c',.int .i64 x]) (by simp [results,results97,go_sem,c0,c1]) rfl ?_;exact ⟨⟨_,_,_,rfl⟩,Qah⟩
set_option maxHeartbeats 6000000 in
set_option maxRecDepth 100000 in
theorem Qkw (A B C:Option Addr)(n m k c d e:Nat)(N:Qam)(w:World)(h:Qbz w A B C n m k N)(hn:n≤9223372036854775807)(hm:m≤9223372036854775807)(hk:k≤9223372036854775807) :
 Calls prog 134 #[.agg #[.slice A n c,.slice B m d,.slice C k e]] w fun e w'=>Qbx (Qap N) e∧Below w.heap.size w w':=by
 have HH:=Zh h;have HLV:=Zh h.1.1;have HLA:=Zh h.2.1.1;have HLT:=Zh h.2.2.1;clear h;by_cases q0:(n:Int) > 4096;{(go_enter func134,ntmps134);(go_wp2_with fail);(refine Qac ?_;intro w5 hw5);(have hB5:Blk w5 (w.heap.size+1) 66 #[.slice none 0 0,.int .i64 0]:=by rw [hw5];exact Qbi);(have hb5:Below w.heap.size w w5:=by rw [hw5];exact Qah);exact Kan};by_cases q1:(m:Int) > 16384;{(go_enter func134,ntmps134);(go_wp2_with fail);(refine Qac ?_;intro w5 hw5);(have hB5:Blk w5 (w.heap.size+1) 66 #[.slice none 0 0,.int .i64 0]:=by rw [hw5];exact Qbi);(have hb5:Below w.heap.size w w5:=by rw [hw5];exact Qah);exact Kan};by_cases q2:(k:Int) > 256;{(go_enter func134,ntmps134);(go_wp2_with fail);(refine Qac ?_;intro w5 hw5);(have hB5:Blk w5 (w.heap.size+1) 66 #[.slice none 0 0,.int .i64 0]:=by rw [hw5];exact Qbi);(have hb5:Below w.heap.size w w5:=by rw [hw5];exact Qah);exact Kan};go_enter func134,ntmps134
 go_wp2_with fail
 (refine Qaj ?_;intro w1 hw1);have hb1:Below w.heap.size w w1:=by rw [hw1];exact Qah
 have hN1:Blk w1 w.heap.size 26 #[.slice A n c,.slice B m d,.slice C k e]:=by rw [hw1];exact Qbi
 have hR1:Blk w1 (w.heap.size+1) 66 #[.slice none 0 0,.int .i64 0]:=by rw [hw1];exact Qbi
 clear hw1;go_loopw [3] (fun q W=>∃ i:Nat,i≤k∧q=.int .i64 i∧Below w.heap.size w W∧Blk W w.heap.size 26 #[.slice A n c,.slice B m d,.slice C k e]∧Blk W (w.heap.size+1) 66 #[.slice none 0 0,.int .i64 0]∧∀ j t,j<i→N.ts[j]?=some t→Qom t) (fun q _=>k-(intOf q).toNat)
 case atStart=>exact ⟨0,Nat.zero_le _,rfl,hb1,hN1,hR1,fun _ _ h=>absurd h (Nat.not_lt_zero _)⟩
 case round =>
  clear hb1 hN1 hR1;obtain ⟨i,hi,rfl,hbl,hNN,hRR,hall⟩:=hrel;have HA:=Zh hall;clear hall;obtain ⟨n0,n1,n2⟩:=hNN.three;have zN:=hNN.lt;have zR:=hRR.lt;by_cases hlt:i<k
  {obtain ⟨b,o,t,rfl,ht,k0,k1,A',n',c',k2,hr,hc1,hc2⟩:=(HH.out.2.2.below hbl).at_ hlt;(have i1:0≤(i:Int):=by omega);(have i2:(i:Int)<k:=by omega);have HT:=Zh ht;clear ht;have HTC:=Zh (show Calls prog 170 #[.agg #[.int .i64 t.ins,.int .i64 t.outs,.slice A' n' c']] wr fun e w'=>Qcz (Qom t) wr.heap.size e w'∧Below wr.heap.size wr w' from Qir A' n' c' t wr hr (by omega));(go_wp2_with fail);(with_reducible refine (HTC.out).mono ?_);rintro e w2 ⟨⟨A4,k4,c4,x,rfl,hg4,hx⟩,hb2⟩;have hN2:=hNN.below hb2 hNN.lt;have hR2:=hRR.below hb2 hRR.lt;have hbl2:Below w.heap.size w w2:=Zb hbl hb2;clear n0 n1 n2 k0 k1 k2;(rcases hx with ⟨rfl,hT⟩|hx);{have HT2:=Zh hT;clear hT;(go_wp2_with fail);go_roundw;(case rel =>refine ⟨i+1,by omega,by go_num,Bel.alloc hbl2,hN2.alloc _,hR2.alloc _,fun j y hj hy=>?_⟩;by_cases e:j=i;{subst e;rw [HT.out] at hy;cases hy;exact HT2.out};{exact HA.out j y (by omega) hy});case measure=>simp [intOf];omega};{(go_wp2_with fail);(refine Qac ?_;intro w5 hw5);(have hB5:Blk w5 (w.heap.size+1) 66 #[.slice none 0 0,.int .i64 0]:=by rw [hw5];exact Qbi);(have hb5:Below w.heap.size w w5:=by rw [hw5];exact Qah);(have hg5:Wg wr.heap.size w5 A4 k4 c4:=by rw [hw5];exact hg4.alloc _);(clear hw5;with_reducible refine (Qny _ _ _ _ _ _ _ _ hx hg5).mono ?_);rintro e w6 ⟨⟨A6,n6,m6,rfl⟩,hb6⟩;have hB6:=Blk.below hB5 hb6 hB5.lt;obtain ⟨c0,c1,f0,f1⟩:=hB6.two;have hb6':Below w.heap.size w w6:=Zb hb5 hb6;(go_wp2_with fail);refine bodyPost_ret (v:=.agg #[.slice A6 n6 m6,.int .i64 x]) (by simp [results,results134,go_sem,c0,c1]) rfl ?_;exact ⟨Qbx.no hx,Qah⟩}}
  · obtain rfl:i=k:=by omega
    have HTA:=Zh (show ∀ t∈N.ts,Qom t from fun t ht=>by
     obtain ⟨j,hj⟩:=Yr ht;exact HA.out j t (by rw [←HLT.out];exact (Zs hj).1) hj)
    clear HA;obtain ⟨w2,hw2⟩:=Zx wr;subst hw2;(go_wp2_with fail);clear n0 n1 n2 zN zR hlt hi;(go_loopw [5] (fun q W=>∃ j:Nat,j≤n∧q=.int .i64 j∧Below w.heap.size w W∧Blk W w.heap.size 26 #[.slice A n c,.slice B m d,.slice C i e]∧Blk W (w.heap.size+1) 66 #[.slice none 0 0,.int .i64 0]∧∀ r v,r<j→N.vs[r]?=some v→Qwf i v) (fun q _=>n-(intOf q).toNat));case atStart=>exact ⟨0,Nat.zero_le _,rfl,hbl,hNN,hRR,fun _ _ h=>absurd h (Nat.not_lt_zero _)⟩
    case round =>
     clear hbl hNN hRR;obtain ⟨j,hj,rfl,hbl,hNN,hRR,hall⟩:=hrel;have HA:=Zh hall;clear hall;obtain ⟨n0,n1,n2⟩:=hNN.three;have zN:=hNN.lt;have zR:=hRR.lt;by_cases hlt:j<n
     · obtain ⟨b,o,x,y,z,rfl,hx,cx,cy,cz⟩:=(HH.out.1.below hbl).at_ hlt;(have i1:0≤(j:Int):=by omega);(have i2:(j:Int)<n:=by omega);have HX:=Zh hx;clear hx;have HF1:=Zh (show ∀ V,Calls prog 171 #[.int .i64 x] V fun e w'=>e=.returned (.bool (Qhd x))∧V=w' from fun V=>Qoy x V);have HF2:=Zh (show ∀ V,Calls prog 171 #[.int .i64 y] V fun e w'=>e=.returned (.bool (Qhd y))∧V=w' from fun V=>Qoy y V);cases e1:Qhd x;{rw [e1] at HF1;(go_wp2_with fail);(with_reducible refine (HF1.out _).mono ?_);rintro e w' ⟨rfl,rfl⟩;(go_wp2_with fail);(refine Qac ?_;intro w5 hw5);(have hB5:Blk w5 (w.heap.size+1) 66 #[.slice none 0 0,.int .i64 0]:=by rw [hw5];exact Qbi);(have hb5:Below w.heap.size w w5:=by rw [hw5];exact Qah);exact Kax};cases e2:Qhd y;{rw [e1] at HF1;rw [e2] at HF2;have HE:=Zh e1;clear e1;(go_wp2_with fail);(with_reducible refine (HF1.out _).mono ?_);rintro e w' ⟨rfl,rfl⟩;(go_wp2_with fail);(with_reducible refine (HF2.out _).mono ?_);rintro e w' ⟨rfl,rfl⟩;(go_wp2_with fail);(refine Qac ?_;intro w5 hw5);(have hB5:Blk w5 (w.heap.size+1) 66 #[.slice none 0 0,.int .i64 0]:=by rw [hw5];exact Qbi);(have hb5:Below w.heap.size w w5:=by rw [hw5];exact Qah);exact Kax};rw [e1] at HF1;rw [e2] at HF2;have HE1:=Zh e1;have HE2:=Zh e2;clear e1 e2;(go_wp2_with fail);(with_reducible refine (HF1.out _).mono ?_);rintro e w' ⟨rfl,rfl⟩;(go_wp2_with fail);(with_reducible refine (HF2.out _).mono ?_);rintro e w' ⟨rfl,rfl⟩;by_cases z0:z<0
       ·
        go_wp2_with fail
        (refine Qac ?_;intro w5 hw5)
        have hB5:Blk w5 (w.heap.size+1) 66 #[.slice none 0 0,.int .i64 0]:=by rw [hw5];exact Qbi
        have hb5:Below w.heap.size w w5:=by rw [hw5];exact Qah
        clear hw5;with_reducible refine (Qav _ _ _ _).mono ?_
        rintro e w2 ⟨⟨A4,n4,m4,rfl,hg4⟩,hb⟩;have hB2:=Blk.below hB5 hb hB5.lt;obtain ⟨c0,c1,f0,f1⟩:=hB2.two;have hb2:Below w.heap.size w w2:=Zb hb5 hb
        go_wp2_with fail
        refine bodyPost_ret (v:=.agg #[.slice A4 n4 m4,.int .i64 5]) (by simp [results,results134,go_sem,c0,c1]) rfl ?_
        first | exact ⟨Qbx.no (by decide),Qah⟩ | exact ⟨Qcz.no (Wg.mono (B:=w5.heap.size) (Wg.setCell (Wg.setCell hg4 hB5.lt _) hB5.lt _) hb5.size) (by decide),Qah⟩
       by_cases z1:z ≥ (i:Int)
       ·
        go_wp2_with fail
        (refine Qac ?_;intro w5 hw5)
        have hB5:Blk w5 (w.heap.size+1) 66 #[.slice none 0 0,.int .i64 0]:=by rw [hw5];exact Qbi
        have hb5:Below w.heap.size w w5:=by rw [hw5];exact Qah
        clear hw5;with_reducible refine (Qav _ _ _ _).mono ?_
        rintro e w2 ⟨⟨A4,n4,m4,rfl,hg4⟩,hb⟩;have hB2:=Blk.below hB5 hb hB5.lt;obtain ⟨c0,c1,f0,f1⟩:=hB2.two;have hb2:Below w.heap.size w w2:=Zb hb5 hb
        go_wp2_with fail
        refine bodyPost_ret (v:=.agg #[.slice A4 n4 m4,.int .i64 5]) (by simp [results,results134,go_sem,c0,c1]) rfl ?_
        first | exact ⟨Qbx.no (by decide),Qah⟩ | exact ⟨Qcz.no (Wg.mono (B:=w5.heap.size) (Wg.setCell (Wg.setCell hg4 hB5.lt _) hB5.lt _) hb5.size) (by decide),Qah⟩
       (go_wp2_with fail);go_roundw;(case rel =>refine ⟨j+1,by omega,by go_num,Bel.alloc hbl,hNN.alloc _,hRR.alloc _,fun r v hr hv=>?_⟩;by_cases e:r=j;{subst e;rw [HX.out] at hv;cases hv;exact ⟨HE1.out,HE2.out,by simp only;omega,by simp only;omega⟩};{exact HA.out r v (by omega) hv});case measure=>simp [intOf];omega
     · obtain rfl:j=n:=by omega
       have HVA:=Zh (show ∀ v∈N.vs,Qwf i v from fun v hv=>by
        obtain ⟨r,hr⟩:=Yr hv;exact HA.out r v (by rw [←HLV.out];exact (Zs hr).1) hr)
       clear HA;obtain ⟨w3,hw3⟩:=Zx wr;subst hw3;have hmk:=Qdg j (by omega);(go_wp2_with fail);(refine Qaj ?_;intro w4 hw4);(have hb4:Below w.heap.size w w4:=by rw [hw4];exact Qah);(have hN4:Blk w4 w.heap.size 26 #[.slice A j c,.slice B m d,.slice C i e]:=by rw [hw4];exact Qnd);(have hR4:Blk w4 (w.heap.size+1) 66 #[.slice none 0 0,.int .i64 0]:=by rw [hw4];exact Qnd);(have hI4:Blk w4 w3.heap.size 3 (Qbs (.int .i64 0) j):=by rw [hw4];exact Qbi);(have hO4:Blk w4 (w3.heap.size+1) 3 (Qbs (.int .i64 0) j):=by rw [hw4];exact Qbi);obtain ⟨g,hg⟩:=Zx w3.heap.size;rw [←hg] at hI4 hO4 zR;rw [←hg];clear hw4 hmk n0 n1 n2 zN hbl hNN hRR hj hlt hg;(go_loopw [9] (fun q W=>∃ r:Nat,r≤m∧q=.int .i64 r∧Below w.heap.size w W∧Blk W w.heap.size 26 #[.slice A j c,.slice B m d,.slice C i e]∧Blk W (w.heap.size+1) 66 #[.slice none 0 0,.int .i64 0]∧Blk W g 3 (Qcf (Qqt (·.2.1) (N.ar.take r) j))∧Blk W (g+1) 3 (Qcf (Qqt (·.1) (N.ar.take r) j))∧∀ p a,p<r→N.ar[p]?=some a→ArcOk j a) (fun q _=>m-(intOf q).toNat));case atStart=>exact ⟨0,Nat.zero_le _,rfl,hb4,hN4,hR4,by rw [List.take_zero,Qht];exact hI4,by rw [List.take_zero,Qht];exact hO4,fun _ _ h=>absurd h (Nat.not_lt_zero _)⟩
       case round =>
        clear hb4 hN4 hR4 hI4 hO4;obtain ⟨r,hr,rfl,hbl,hNN,hRR,hI,hO,hall⟩:=hrel;have HA:=Zh hall;clear hall;obtain ⟨n0,n1,n2⟩:=hNN.three;have zN:=hNN.lt;have zI:=hI.lt;have zO:=hO.lt;by_cases hlt:r<m
        · obtain ⟨b,o,x,y,z,rfl,hx,cx,cy,cz⟩:=(HH.out.2.1.below hbl).at_ hlt;(have i1:0≤(r:Int):=by omega);(have i2:(r:Int)<m:=by omega);have HX:=Zh hx;clear hx;by_cases x0:x<0
          ·
           go_wp2_with fail
           (refine Qac ?_;intro w5 hw5)
           have hB5:Blk w5 (w.heap.size+1) 66 #[.slice none 0 0,.int .i64 0]:=by rw [hw5];exact Qbi
           have hb5:Below w.heap.size w w5:=by rw [hw5];exact Qah
           clear hw5;with_reducible refine (Qav _ _ _ _).mono ?_
           rintro e w2 ⟨⟨A4,n4,m4,rfl,hg4⟩,hb⟩;have hB2:=Blk.below hB5 hb hB5.lt;obtain ⟨c0,c1,f0,f1⟩:=hB2.two;have hb2:Below w.heap.size w w2:=Zb hb5 hb
           go_wp2_with fail
           refine bodyPost_ret (v:=.agg #[.slice A4 n4 m4,.int .i64 5]) (by simp [results,results134,go_sem,c0,c1]) rfl ?_
           first | exact ⟨Qbx.no (by decide),Qah⟩ | exact ⟨Qcz.no (Wg.mono (B:=w5.heap.size) (Wg.setCell (Wg.setCell hg4 hB5.lt _) hB5.lt _) hb5.size) (by decide),Qah⟩
          by_cases x1:x ≥ (j:Int)
          ·
           go_wp2_with fail
           (refine Qac ?_;intro w5 hw5)
           have hB5:Blk w5 (w.heap.size+1) 66 #[.slice none 0 0,.int .i64 0]:=by rw [hw5];exact Qbi
           have hb5:Below w.heap.size w w5:=by rw [hw5];exact Qah
           clear hw5;with_reducible refine (Qav _ _ _ _).mono ?_
           rintro e w2 ⟨⟨A4,n4,m4,rfl,hg4⟩,hb⟩;have hB2:=Blk.below hB5 hb hB5.lt;obtain ⟨c0,c1,f0,f1⟩:=hB2.two;have hb2:Below w.heap.size w w2:=Zb hb5 hb
           go_wp2_with fail
           refine bodyPost_ret (v:=.agg #[.slice A4 n4 m4,.int .i64 5]) (by simp [results,results134,go_sem,c0,c1]) rfl ?_
           first | exact ⟨Qbx.no (by decide),Qah⟩ | exact ⟨Qcz.no (Wg.mono (B:=w5.heap.size) (Wg.setCell (Wg.setCell hg4 hB5.lt _) hB5.lt _) hb5.size) (by decide),Qah⟩
          by_cases y0:y<0
          ·
           go_wp2_with fail
           (refine Qac ?_;intro w5 hw5)
           have hB5:Blk w5 (w.heap.size+1) 66 #[.slice none 0 0,.int .i64 0]:=by rw [hw5];exact Qbi
           have hb5:Below w.heap.size w w5:=by rw [hw5];exact Qah
           clear hw5;with_reducible refine (Qav _ _ _ _).mono ?_
           rintro e w2 ⟨⟨A4,n4,m4,rfl,hg4⟩,hb⟩;have hB2:=Blk.below hB5 hb hB5.lt;obtain ⟨c0,c1,f0,f1⟩:=hB2.two;have hb2:Below w.heap.size w w2:=Zb hb5 hb
           go_wp2_with fail
           refine bodyPost_ret (v:=.agg #[.slice A4 n4 m4,.int .i64 5]) (by simp [results,results134,go_sem,c0,c1]) rfl ?_
           first | exact ⟨Qbx.no (by decide),Qah⟩ | exact ⟨Qcz.no (Wg.mono (B:=w5.heap.size) (Wg.setCell (Wg.setCell hg4 hB5.lt _) hB5.lt _) hb5.size) (by decide),Qah⟩
          by_cases y1:y ≥ (j:Int)
          ·
           go_wp2_with fail
           (refine Qac ?_;intro w5 hw5)
           have hB5:Blk w5 (w.heap.size+1) 66 #[.slice none 0 0,.int .i64 0]:=by rw [hw5];exact Qbi
           have hb5:Below w.heap.size w w5:=by rw [hw5];exact Qah
           clear hw5;with_reducible refine (Qav _ _ _ _).mono ?_
           rintro e w2 ⟨⟨A4,n4,m4,rfl,hg4⟩,hb⟩;have hB2:=Blk.below hB5 hb hB5.lt;obtain ⟨c0,c1,f0,f1⟩:=hB2.two;have hb2:Below w.heap.size w w2:=Zb hb5 hb
           go_wp2_with fail
           refine bodyPost_ret (v:=.agg #[.slice A4 n4 m4,.int .i64 5]) (by simp [results,results134,go_sem,c0,c1]) rfl ?_
           first | exact ⟨Qbx.no (by decide),Qah⟩ | exact ⟨Qcz.no (Wg.mono (B:=w5.heap.size) (Wg.setCell (Wg.setCell hg4 hB5.lt _) hB5.lt _) hb5.size) (by decide),Qah⟩
          have HF1:=Zh (show ∀ V,Calls prog 91 #[.int .i64 z] V fun e w'=>e=.returned (.bool (wOk z))∧V=w' from fun V=>Qgb z V);cases e1:wOk z;{rw [e1] at HF1;(go_wp2_with fail);(with_reducible refine (HF1.out _).mono ?_);rintro e w' ⟨rfl,rfl⟩;(go_wp2_with fail);(refine Qac ?_;intro w5 hw5);(have hB5:Blk w5 (w.heap.size+1) 66 #[.slice none 0 0,.int .i64 0]:=by rw [hw5];exact Qbi);(have hb5:Below w.heap.size w w5:=by rw [hw5];exact Qah);(clear hw5;with_reducible refine (Qav _ _ _ _).mono ?_);rintro e w2 ⟨⟨A4,n4,m4,rfl,hg4⟩,hb⟩;have hB2:=Blk.below hB5 hb hB5.lt;obtain ⟨c0,c1,f0,f1⟩:=hB2.two;have hb2:Below w.heap.size w w2:=Zb hb5 hb;(go_wp2_with fail);refine bodyPost_ret (v:=.agg #[.slice A4 n4 m4,.int .i64 8]) (by simp [results,results134,go_sem,c0,c1]) rfl ?_;exact Kad};(rw [e1] at HF1;have HE1:=Zh e1;clear e1;obtain ⟨u,rfl⟩:∃ u:Nat,x=u:=⟨x.toNat,by omega⟩;obtain ⟨v,rfl⟩:∃ v:Nat,y=v:=⟨y.toNat,by omega⟩;have hu:u<j:=by omega);(have hvn:v<j:=by omega);(have HX1:=Zh (Qhs (f:=(·.2.1)) (n:=j) (v:=v) HX.out rfl hvn);have HX2:=Zh (Qhs (f:=(·.1)) (n:=j) (v:=u) HX.out rfl hu);have c1:=hI.cellI (Qdb (f:=(·.2.1)) (l:=N.ar.take r) hvn);have c2:=hO.cellI (Qdb (f:=(·.1)) (l:=N.ar.take r) hu);have d1:=Qkc (·.2.1) N.ar r v;have d2:=Qkc (·.1) N.ar r u;generalize (N.ar.take r).countP (fun a=>a.2.1 == (v:Int))=p at *;generalize (N.ar.take r).countP (fun a=>a.1 == (u:Int))=q at *;have f1:=hI.frozen v;have f2:=hO.frozen u;obtain ⟨W2,hW2⟩:=Zx (((wr.setCell ⟨g+1,u,none⟩ (.int .i64 ((q:Int)+1))).setCell ⟨g,v,none⟩ (.int .i64 ((p:Int)+1))).alloc (.cells #[.int .i64 u,.int .i64 v,.int .i64 z] 119));have HW2:=Zh hW2;have hb2:Below w.heap.size w W2:=by rw [hW2];exact Bel.alloc ((hbl.setCell (by simp only;omega) _).setCell (by simp only;omega) _));have HN2:=Zh (show Blk W2 w.heap.size 26 #[.slice A j c,.slice (some ⟨b,o,none⟩) m d,.slice C i e] from by rw [hW2];exact Qnd);have HR2:=Zh (show Blk W2 (w.heap.size+1) 66 #[.slice none 0 0,.int .i64 0] from by rw [hW2];exact Qnd)
          have HI2:=Zh (show Blk W2 g 3 (Qcf (Qqt (·.2.1) (N.ar.take (r+1)) j)) from by
           rw [hW2];exact (Blk.setI (hI.far_ (by omega) _) HX1.out).alloc _)
          have HO2:=Zh (show Blk W2 (g+1) 3 (Qcf (Qqt (·.1) (N.ar.take (r+1)) j)) from by
           rw [hW2];exact ((hO.setI HX2.out).far_ (by omega) _).alloc _)
          clear hW2 hI hO hNN hRR;(go_wp2_with fail);(with_reducible refine (HF1.out _).mono ?_);rintro e w' ⟨rfl,rfl⟩;(go_wp2_with fail);rw [←HW2.out];go_roundw;(case rel =>refine ⟨r+1,by omega,by go_num,hb2,HN2.out,HR2.out,HI2.out,HO2.out,fun p' a hp ha=>?_⟩;by_cases e:p'=r;{subst e;rw [HX.out] at ha;cases ha;exact ⟨by simp only;omega,by simp only;omega,by simp only;omega,by simp only;omega,HE1.out⟩};{exact HA.out p' a (by omega) ha});case measure=>simp [intOf];omega
        · (obtain rfl:r=m:=by omega);rw [Ye (by rw [HLA.out];exact Zn _)] at hI hO
          have HAA:=Zh (show ∀ a∈N.ar,ArcOk j a from fun a ha=>by
           obtain ⟨p,hp⟩:=Yr ha;exact HA.out p a (by rw [←HLA.out];exact (Zs hp).1) hp)
          clear HA;obtain ⟨w6,hw6⟩:=Zx wr;subst hw6;(go_wp2_with fail);clear n0 n1 n2 hlt hr;(go_loopw [11] (fun q W=>∃ s:Nat,s≤j∧q=.int .i64 s∧Below w6.heap.size w6 W∧∀ (p:Nat) v t,p<s→N.vs[p]?=some v→N.ts[v.2.2.toNat]?=some t→(cntTo N.ar p:Int)=t.ins∧(cntFr N.ar p:Int)=t.outs) (fun q _=>j-(intOf q).toNat));case atStart=>exact ⟨0,Nat.zero_le _,rfl,Zr _ _,fun _ _ _ h=>absurd h (Nat.not_lt_zero _)⟩
          case round =>
           obtain ⟨s,hs,rfl,hb2,hall⟩:=hrel;have HA:=Zh hall;clear hall;have hNr:=hNN.below hb2 zN;have hRr:=hRR.below hb2 hRR.lt;have hIr:=hI.below hb2 zI;have hOr:=hO.below hb2 zO;have hblr:Below w.heap.size w wr:=Zb hbl hb2;obtain ⟨n0,n1,n2⟩:=hNr.three;have zr:=hb2.size;by_cases hlt2:s<j
           · obtain ⟨b,o,x,y,z,rfl,hx,cx,cy,cz⟩:=(HH.out.1.below hblr).at_ hlt2;(have hok:=HVA.out _ (Zm hx);have t0:=hok.t0;have t1:=hok.t1;simp only at t0 t1;obtain ⟨u,rfl⟩:∃ u:Nat,z=u:=⟨z.toNat,by omega⟩;have hu:u<i:=by omega);obtain ⟨b',o',t,rfl,htt,k0,k1,A',n',c',k2,_,_,_⟩:=(HH.out.2.2.below hblr).at_ hu;obtain ⟨ti,to_,tc⟩:=t;simp only at k0 k1;have HX:=Zh hx;have HTT:=Zh htt;have c1:=hIr.cellI (Qdb (f:=(·.2.1)) (l:=N.ar) hlt2);have c2:=hOr.cellI (Qdb (f:=(·.1)) (l:=N.ar) hlt2);obtain ⟨p,hp⟩:=Zx (N.ar.countP (fun a=>a.2.1 == (s:Int)));obtain ⟨q,hq⟩:=Zx (N.ar.countP (fun a=>a.1 == (s:Int)));rw [←hp] at c1;rw [←hq] at c2;have HP:=Zh hp;have HQ:=Zh hq
             have HSX:=Zh (show ∀ V,Below wr.heap.size wr V→V.cell? ⟨w.heap.size,0,none⟩=some (.slice (some ⟨b,o,none⟩) j c)∧V.cell? ⟨w.heap.size,2,none⟩=some (.slice (some ⟨b',o',none⟩) i e)∧V.cell? ⟨b,o+s*3+2,none⟩=some (.int .i64 u)∧V.cell? ⟨b',o'+u*3,none⟩=some (.int .i64 ti)∧V.cell? ⟨b',o'+u*3+1,none⟩=some (.int .i64 to_)∧V.cell? ⟨b',o'+u*3+2,none⟩=some (.slice A' n' c') from fun V hV =>
              ⟨Zc hV (Zn _) n0,Zc hV (Zn _) n2,Zc hV (Zn _) cz,Zc hV (Zn _) k0,Zc hV (Zn _) k1,Zc hV (Zn _) k2⟩)
             (have i1:0≤(s:Int):=by omega);(have i2:(s:Int)<j:=by omega);(have i3:0≤(u:Int):=by omega);(have i4:(u:Int)<i:=by omega);clear hx htt hok hp hq cx cy cz k0 k1 k2 n1;(go_wp2_with fail);refine wp_region_held_drew (S:=fun V=>Below wr.heap.size wr V) (by kernel_rfl) (Zr _ _).drew (fun _=>?_);refine tzd 0 160 ?_;refine tzd 4 164 ?_;refine tzb 8 168 ?_;refine Zk 10 (fun K hK=>?_);go_simp;refine hK.out _ _ (by repeat (first|exact Zr _ _|apply Below.drew|apply Bel.alloc)) (fun _=>?_);(clear hK K;refine Zk 11 (fun K hK=>?_);go_simp;obtain ⟨w7,hw7⟩:=Zx ((wr.alloc (.cells #[.int .i64 ti,.int .i64 to_,.slice A' n' c'] 122)).drew);rw [←hw7];have hb7:Below wr.heap.size wr w7:=by rw [hw7];exact ((Zr _ _).alloc (Zn _) _).drew);(have hT7:Blk w7 wr.heap.size 122 #[.int .i64 ti,.int .i64 to_,.slice A' n' c']:=by rw [hw7];exact Qbi);refine hK.out _ _ hb7 (fun _=>?_);clear hK K hw7;refine Zd ?_;have hR7:=hRr.below hb7 hRr.lt;have hbl7:Below w.heap.size w w7:=Zb hblr hb7;have c1':=Zc hb7 (Zn _) c1;have c2':=Zc hb7 (Zn _) c2;obtain ⟨e0,e1,_⟩:=hT7.three;clear c1 c2 n0 n2;by_cases p16:(p:Int) > 16
             ·
              go_wp2_with fail
              (refine Qac ?_;intro w5 hw5)
              have hB5:Blk w5 (w.heap.size+1) 66 #[.slice none 0 0,.int .i64 0]:=by rw [hw5];exact Qbi
              have hb5:Below w.heap.size w w5:=by rw [hw5];exact Qah
              clear hw5;with_reducible refine (Qav _ _ _ _).mono ?_
              rintro e w2 ⟨⟨A4,n4,m4,rfl,hg4⟩,hb⟩;have hB2:=Blk.below hB5 hb hB5.lt;obtain ⟨c0,c1,f0,f1⟩:=hB2.two;have hb2:Below w.heap.size w w2:=Zb hb5 hb
              go_wp2_with fail
              refine bodyPost_ret (v:=.agg #[.slice A4 n4 m4,.int .i64 4]) (by simp [results,results134,go_sem,c0,c1]) rfl ?_
              first | exact ⟨Qbx.no (by decide),Qah⟩ | exact ⟨Qcz.no (Wg.mono (B:=w5.heap.size) (Wg.setCell (Wg.setCell hg4 hB5.lt _) hB5.lt _) hb5.size) (by decide),Qah⟩
             by_cases q16:(q:Int) > 16
             ·
              go_wp2_with fail
              (refine Qac ?_;intro w5 hw5)
              have hB5:Blk w5 (w.heap.size+1) 66 #[.slice none 0 0,.int .i64 0]:=by rw [hw5];exact Qbi
              have hb5:Below w.heap.size w w5:=by rw [hw5];exact Qah
              clear hw5;with_reducible refine (Qav _ _ _ _).mono ?_
              rintro e w2 ⟨⟨A4,n4,m4,rfl,hg4⟩,hb⟩;have hB2:=Blk.below hB5 hb hB5.lt;obtain ⟨c0,c1,f0,f1⟩:=hB2.two;have hb2:Below w.heap.size w w2:=Zb hb5 hb
              go_wp2_with fail
              refine bodyPost_ret (v:=.agg #[.slice A4 n4 m4,.int .i64 4]) (by simp [results,results134,go_sem,c0,c1]) rfl ?_
              first | exact ⟨Qbx.no (by decide),Qah⟩ | exact ⟨Qcz.no (Wg.mono (B:=w5.heap.size) (Wg.setCell (Wg.setCell hg4 hB5.lt _) hB5.lt _) hb5.size) (by decide),Qah⟩
             by_cases m1:(p:Int)=ti;rotate_left;{(have d1:((p:Int) != ti)=true:=by simpa using m1);(have d2:((p:Int) == ti)=false:=by simpa using m1);clear m1;(go_wp2_with fail);(go_quiet (fail));(go_wp2_with fail);(refine Qac ?_;intro w5 hw5);(have hB5:Blk w5 (w.heap.size+1) 66 #[.slice none 0 0,.int .i64 0]:=by rw [hw5];exact Qbi);(have hb5:Below w.heap.size w w5:=by rw [hw5];exact Qah);exact Kay};(subst m1;have d1:(((p:Nat):Int) != ((p:Nat):Int))=false:=by simp);by_cases m2:(q:Int)=to_;rotate_left;{(have d3:((q:Int) != to_)=true:=by simpa using m2);(have d4:((q:Int) == to_)=false:=by simpa using m2);clear m2;(go_wp2_with fail);(go_quiet (fail));(go_wp2_with fail);(refine Qac ?_;intro w5 hw5);(have hB5:Blk w5 (w.heap.size+1) 66 #[.slice none 0 0,.int .i64 0]:=by rw [hw5];exact Qbi);(have hb5:Below w.heap.size w w5:=by rw [hw5];exact Qah);exact Kay};(subst m2;have d2:(((q:Nat):Int) != ((q:Nat):Int))=false:=by simp);(go_wp2_with fail);(go_quiet (fail));(go_wp2_with fail);go_roundw;(case rel =>refine ⟨s+1,by omega,by go_num,Qay (Zb hb2 hb7) _,fun p' v' t' hp' hv' ht'=>?_⟩;by_cases e:p'=s;{subst e;rw [HX.out] at hv';cases hv';simp only [Yl] at ht';rw [HTT.out] at ht';cases ht';exact ⟨by rw [HP.out];rfl,by rw [HQ.out];rfl⟩};{exact HA.out p' v' t' (by omega) hv' ht'});case measure=>simp [intOf];omega
           {(obtain rfl:s=j:=by omega);obtain ⟨c0,c1,f0,f1⟩:=hRr.two;(go_wp2_with fail);refine bodyPost_ret (v:=.agg #[.slice none 0 0,.int .i64 0]) (by simp [results,results134,go_sem,c0,c1]) rfl ?_;refine ⟨⟨_,_,_,_,rfl,.inl ⟨rfl,⟨by rw [HLV.out];omega,by rw [HLA.out];omega,by rw [HLT.out];omega,HTA.out,by rw [HLT.out];exact HVA.out,by rw [HLV.out];exact HAA.out,fun p v t hv ht=>?_⟩⟩⟩,Qah⟩;exact HA.out p v t (by rw [←HLV.out];exact (Zs hv).1) hv ht}
end Go.Proofs.YtdheeddnkdhfeaaGreatDoor
