/- Qbl of the proof: Bas, Ft, Tl, Dj, QCst, QTab, QJob, QFitP. -/
import Derived.Test.YtkaaakbejnlbgaaGreatDoorD1
import Derived.Laws.CopyOwn
import Derived.Deep.QuietTactic
import Derived.BigQuiet
import Derived.Deep.RegionHeld3
import Derived.Deep.DrawnRows
set_option maxHeartbeats 4000000
namespace Go.Proofs.YtkaaakbejnlbgaaGreatDoor
open Go.RowKit Go.Proofs.Tryz
theorem Qav {k:IntKind}{a b:Int}(h:a=b):Ending.returned (.int k a)=.returned (.int k b):=by rw [h]
theorem Qao {a b:Bool}(h:a=b):Ending.returned (.bool a)=.returned (.bool b):=by rw [h]
theorem Below.frozenOf {B:Nat}{w w':World}(h:Below B w w'){a:Addr}(hB:a.block<B):w'.frozen? a=w.frozen? a:=by unfold World.frozen?;rw [h.block _ hB]
theorem Qab {P:Program}{f:Nat}{args:Array Value}{w:World}{Q:Ending→World→Prop}(h:∀ W,W=w→Calls P f args W Q):Calls P f args w Q:=h w rfl
theorem Qpj {P:Program}{ops:Array Oper}{Q:Exit→Act→World→Prop}{md:Region.Mode}{S S':World→Prop}(h:∀ w,S' w→S w) :
 ∀ (fuel:Nat) (listed:Array Bool) (a:Act) (w:World),wpAnyH P md ops Q S' fuel listed a w→wpAnyH P md ops Q S fuel listed a w
 | 0,_,_,_,g=>g
 | fuel+1,_,_,_,g=>⟨g.1,fun i hi=>wpOp_mono (fun a' w' h'=>⟨h _ h'.1,Qpj h fuel _ a' w' h'.2⟩) (g.2 i hi)⟩
theorem take_ {P:Program}{ops:Array Oper}{Q:Exit→Act→World→Prop}{md:Region.Mode}{S:World→Prop}{i:Nat}{oi:Oper}{d:Option Tmp}{v:Value}{fuel:Nat}{listed:Array Bool}{a:Act}{w:World} (hi:ops[i]?=some oi) (hd:oi.dst=d)
 (hs:Region.noSelect ops=true) (hf:Region.free md ops listed i=true) (hr:(Region.ready md ops listed).contains i=true)
 (hQ:∀ c a w,Q (.panic c) (a.put oi.dst v) w→Q (.panic c) a w) (hw:Region.wanted oi (yielded ops a.tmps)=true) (hy:∀ w,S w→(execOp a.eval oi).run P w=.ok (.value v) w) (hS:S w)
 (h:wpAnyH P md ops Q S fuel (listed.setIfInBounds i true) (a.put d v) w):wpAnyH P md ops Q S (fuel+1) listed a w:=by subst hd;exact wpAnyH_take hi hs hf hr hQ (Or.inl ⟨hw,hy⟩) hS h
theorem takeU_ {P:Program}{ops:Array Oper}{Q:Exit→Act→World→Prop}{md:Region.Mode}{S:World→Prop}{i:Nat}{oi:Oper}{d:Option Tmp}{fuel:Nat}{listed:Array Bool}{a:Act}{w:World} (hi:ops[i]?=some oi) (hd:oi.dst=d)
 (hs:Region.noSelect ops=true) (hf:Region.free md ops listed i=true) (hr:(Region.ready md ops listed).contains i=true)
 (hQ:∀ c a w,Q (.panic c) (a.put oi.dst undef) w→Q (.panic c) a w) (hw:Region.wanted oi (yielded ops a.tmps)=false) (hS:S w)
 (h:wpAnyH P md ops Q S fuel (listed.setIfInBounds i true) (a.put d undef) w):wpAnyH P md ops Q S (fuel+1) listed a w:=by subst hd;exact wpAnyH_take hi hs hf hr hQ (Or.inr ⟨hw,rfl⟩) hS h
theorem Qbc {P:Program}{w:World}{ops:Array Oper}{o:Oper}{a:Act}{K:Act→World→Prop}{Q:Exit→Act→World→Prop}{E:Prop}(d:Option Tmp)(hd:o.dst=d)(hgd:o.guard=none)(s x:Operand)(t:TypeId)
 (ho:o.op=.call { callee:=.builtin .append,args:=#[s,x],argTypes:=#[t,t] })
 (e:TypeId) (z:Value) (sz by_:Nat) (hinfo:(P.info? e).map (fun i=>(i.zero,i.size,i.bytes))=some (some z,sz,by_)) (ht:P.underlying t=some (.slice e)) (hzs:z.cells.size=sz) (hs0:0<sz)
 {B n c m c2:Nat} {A X:Oz} {xs news:List Value} (hs:a.eval s=.slice A n c) (hx:a.eval x=.slice X m c2)
 (hown:Own w B e sz A n c xs) (hr:Rds w sz X m news) (h1:∀ u∈news,u.oneCell'=true) (hn:(n+m)*by_≤140737488355328) (hnm:n+m≤9223372036854775807) (hB:B≤w.heap.size)
 (h:∀ A' c' w',Own w' B e sz A' (n+m) c' (xs ++news)→w.grownBy w' (Qaa A)→(Qaa A'=Qaa A∨Qaa A'=some w.heap.size)→K (a.put d (.slice A' (n+m) c')) w') :
 if Region.wanted o (yielded ops a.tmps)=true then Oper.wp P o a w K Q else E:=by subst hd;exact step_app hgd s x t ho e z sz by_ hinfo ht hzs hs0 hs hx hown hr h1 hn hnm hB h
theorem Qig {P:Program}{f:FuncId}{args:Array Value}{w:World}{n:Nat}{v:Value}
 (h:Calls P f args (w.drewN n) fun e w'=>e=.returned v∧w.drewN n=w'):Calls P f args (w.drewN n) fun e w'=>e=.returned v∧∃ m,w'=w.drewN m :=
 h.mono fun _ _ ⟨he,hm⟩=>⟨he,n,hm.symm⟩
theorem Qbm:(Tryz.prog.info? 3).map (fun i=>(i.zero,i.size,i.bytes))=some (some (.int .i64 0),1,8):=Kf
def RdT (w:World)(A:Oz)(n:Nat) (ls:Lz):Prop :=
 ls.length=n∧∀ i l,ls[i]?=some l→∃ b o A' n' c',A=some ⟨b,o,none⟩∧w.cell? ⟨b,o+i,none⟩=some (.slice A' n' c')∧RdI w A' n' l∧n'≤c'∧c'≤9223372036854775807
theorem RdT.at_ {w:World}{A:Oz}{n i:Nat} {ls:Lz} (h:RdT w A n ls) (hi:i<n) :
 ∃ b o A' n' c' l,A=some ⟨b,o,none⟩∧ls[i]?=some l∧w.cell? ⟨b,o+i,none⟩=some (.slice A' n' c')∧RdI w A' n' l∧n'≤c'∧c'≤9223372036854775807:=by
 have hl:i<ls.length:=by rw [h.1];exact hi
 obtain ⟨b,o,A',n',c',h1,h2,h3,h4,h5⟩:=h.2 i _ (List.getElem?_eq_getElem hl);exact ⟨b,o,A',n',c',_,h1,List.getElem?_eq_getElem hl,h2,h3,h4,h5⟩
theorem RdT.below {w w':World}{A:Oz}{n:Nat} {ls:Lz} (h:RdT w A n ls) (hb:Bw w w'):RdT w' A n ls :=
 ⟨h.1,fun i l hl=>by
  obtain ⟨b,o,A',n',c',h1,h2,h3,h4,h5⟩:=h.2 i l hl;exact ⟨b,o,A',n',c',h1,Zc hb (Nat.le_refl _) h2,h3.below hb,h4,h5⟩⟩
theorem Blk.two {w:World}{g:Nat}{t:TypeId}{a b:Value} (h:Blk w g t #[a,b]) :
 w.cell? ⟨g,0,none⟩=some a∧w.cell? ⟨g,1,none⟩=some b∧w.frozen? ⟨g,0,none⟩=false∧w.frozen? ⟨g,1,none⟩=false :=
 ⟨by rw [h.cell];rfl,by rw [h.cell];rfl,h.frozen 0,h.frozen 1⟩
theorem Blk.four {w:World}{g:Nat}{t:TypeId}{a b c d:Value} (h:Blk w g t #[a,b,c,d]) :
 w.cell? ⟨g,0,none⟩=some a∧w.cell? ⟨g,1,none⟩=some b∧w.cell? ⟨g,2,none⟩=some c∧w.cell? ⟨g,3,none⟩=some d :=
 ⟨by rw [h.cell];rfl,by rw [h.cell];rfl,by rw [h.cell];rfl,by rw [h.cell];rfl⟩
theorem Blk.grown {w w':World}{g:Nat}{t:TypeId}{cs:Array Value}{r:Option Nat}(h:Blk w g t cs)(hg:w.grownBy w' r)(hne:r≠some g):Blk w' g t cs :=
 (hg.block g h.lt (fun e=>hne e.symm)).trans h
theorem Own.ne {w:World}{B s n c g:Nat}{e:TypeId}{A:Oz}{xs:List Value}(h:Own w B e s A n c xs)(hg:g<B):Qaa A≠some g:=fun e'=>by have:=(h.lt g e').1;omega
theorem RdP.grown {w w':World}{A:Oz}{n g:Nat} {l:Pz} (h:RdP w A n l) (hg:w.grownBy w' (some g)) (hne:Qaa A≠some g):RdP w' A n l :=
 ⟨h.1,fun i x hx=>by
  obtain ⟨b,o,e,h1,h2⟩:=h.2 i x hx;subst e;have hbne:(some b:Option Nat)≠some g:=hne;have hb:=Qaj h1;have hk:=hg.block b hb (fun e=>hbne e);refine ⟨b,o,rfl,?_,?_⟩
  all_goals
   unfold World.cell? at h1 h2 ⊢;rw [hk]
   assumption⟩
theorem RdK.grown {k:IntKind}{w w':World}{A:Oz}{n g:Nat}{l:Iz}(h:RdK k w A n l) (hg:w.grownBy w' (some g)) (hne:Qaa A≠some g):RdK k w' A n l :=
 ⟨h.1,fun i x hx=>by
  obtain ⟨b,o,e,hc⟩:=h.2 i x hx;subst e;refine ⟨b,o,rfl,?_⟩;have hb:=Qaj hc;have hbne:(some b:Option Nat)≠some g:=hne;have:=hg.block b hb (fun e=>hbne e);unfold World.cell? at hc ⊢;rw [this];exact hc⟩
theorem Qac (W:World)(g i:Nat)(v:Value):W.grownBy (W.setCell ⟨g,i,none⟩ v) (some g) where
 os:=rfl
 tape:=rfl
 output:=rfl
 size:=by simp [World.setCell]
 block:=fun k hk hne=>Below.heap_setCell W ⟨g,i,none⟩ v k (fun e=>hne (by rw [e]))
theorem Own.capMax {w:World}{B s n c:Nat}{e:TypeId}{A:Oz}{xs:List Value}(h:Own w B e s A n c xs):c≤9223372036854775807:=by
 rcases h.2 with ⟨h',h0⟩|⟨g,cap,cur,h1,_,_,_,h4,_⟩
 {cases h';omega};{cases h1;unfold maxLen at h4;omega}
theorem Own.block {w:World}{B s n c:Nat}{e:TypeId}{A:Oz}{xs:List Value}(h:Own w B e s A n c xs)(hn:0<n) :
 ∃ g cur,A=some ⟨g,0,none⟩∧B≤g∧Blk w g e cur∧n≤c∧cur.size=c*s∧∀ (j:Nat) (u:Value),xs[j]?=some u→cur[j]?=some u:=by
 rcases h.2 with ⟨_,h0⟩|⟨g,cap,cur,h1,h2,h3,h4,_,h6,h7⟩
 {omega};{cases h1;refine ⟨g,cur,rfl,h2,h3,h4,h6,fun j u hu=>?_⟩;rw [←h7,List.getElem?_take] at hu;(split at hu);{simpa using hu};{cases hu}}
def RwO (W:World)(B:Nat)(t:TypeId)(A:Oz)(n c:Nat)(xs:List Value) (ls:Lz):Prop :=
 Own W B t 1 A n c xs∧ls.length=n∧∀ (j:Nat) (l:Iz),ls[j]?=some l→∃ A' n' c',xs[j]?=some (.slice A' n' c')∧RdI W A' n' l∧(∀ g,Qaa A'=some g→g<W.heap.size∧Qaa A≠some g)∧n'≤c'∧c'≤9223372036854775807
theorem RwO.nil (W:World)(B:Nat)(t:TypeId):RwO W B t none 0 0 [] []:=⟨Own.nil _ _ _ _,rfl,fun j l h=>by simp at h⟩
theorem RwO.rdT {W:World}{B n c:Nat}{t:TypeId}{A:Oz}{xs:List Value} {ls:Lz} (h:RwO W B t A n c xs ls):RdT W A n ls :=
 ⟨h.2.1,fun i l hl=>by
  obtain ⟨A',n',c',h1,h2,_,h4,h5⟩:=h.2.2 i l hl;obtain ⟨b,o,e,hc⟩:=h.1.rds.2 i _ h1;exact ⟨b,o,A',n',c',e,hc,h2,h4,h5⟩⟩
theorem RwO.below {W W':World}{B n c:Nat}{t:TypeId}{A:Oz}{xs:List Value} {ls:Lz} (h:RwO W B t A n c xs ls) (hb:Bw W W'):RwO W' B t A n c xs ls :=
 ⟨h.1.below hb,h.2.1,fun i l hl=>by
  obtain ⟨A',n',c',h1,h2,h3,h4,h5⟩:=h.2.2 i l hl;exact ⟨A',n',c',h1,h2.below hb,fun g hg=>⟨Nat.lt_of_lt_of_le (h3 g hg).1 hb.size,(h3 g hg).2⟩,h4,h5⟩⟩
theorem RdK.grownN {k:IntKind}{w w':World}{A:Oz}{n:Nat}{r:Option Nat}{l:Iz}(h:RdK k w A n l)(hg:w.grownBy w' r)(hne:∀ g,Qaa A=some g→r≠some g):RdK k w' A n l :=
 ⟨h.1,fun i x hx=>by
  obtain ⟨b,o,e,hc⟩:=h.2 i x hx;subst e;refine ⟨b,o,rfl,?_⟩;have hb:=Qaj hc;have:=hg.block b hb (fun e=>hne b rfl e.symm);unfold World.cell? at hc ⊢;rw [this];exact hc⟩
theorem RwO.push {W w':World}{B n c c' m d:Nat}{t:TypeId}{A A' R:Oz}{xs:List Value} {ls:Lz} {l:Iz} (h:RwO W B t A n c xs ls)
 (hown:Own w' B t 1 A' (n+1) c' (xs ++[.slice R m d])) (hg:W.grownBy w' (Qaa A)) (hat:Qaa A'=Qaa A∨Qaa A'=some W.heap.size)
 (hr:RdI W R m l) (hne:∀ g,Qaa R=some g→g<W.heap.size∧Qaa A≠some g) (h4:m≤d) (h5:d≤9223372036854775807):RwO w' B t A' (n+1) c' (xs ++[.slice R m d]) (ls ++[l]):=by
 have hxl:xs.length=ls.length:=by rw [h.1.1,h.2.1];omega
 have new:∀ Y:Oz,(∀ g,Qaa Y=some g→g<W.heap.size∧Qaa A≠some g)→∀ g,Qaa Y=some g→g<w'.heap.size∧Qaa A'≠some g:=fun Y hY g e=>by{obtain ⟨k1,k2⟩:=hY g e;refine ⟨Nat.lt_of_lt_of_le k1 hg.size,fun e2=>?_⟩;exact Kbh};refine ⟨hown,by simp [h.2.1],fun j l' hl=>?_⟩;rcases Nat.lt_trichotomy j ls.length with hj|hj|hj
 {rw [List.getElem?_append_left hj] at hl;obtain ⟨A2,n2,c2,k1,k2,k3,k4,k5⟩:=h.2.2 j l' hl;exact ⟨A2,n2,c2,by rw [List.getElem?_append_left Oo];exact k1,k2.grownN hg (fun g e=>(k3 g e).2),new A2 k3,k4,k5⟩};{subst hj;rw [List.getElem?_append_right (Nat.le_refl _),Nat.sub_self] at hl;cases hl;exact ⟨R,m,d,by rw [←hxl,List.getElem?_append_right (Nat.le_refl _),Nat.sub_self];rfl,hr.grownN hg (fun g e=>(hne g e).2),new R hne,h4,h5⟩};{rw [List.getElem?_eq_none (by simp;omega)] at hl;cases hl}
theorem Qch (R:Oz)(m d:Nat):∀ u∈[Value.slice R m d],u.oneCell'=true:=by intro u hu;simp at hu;rw [hu];rfl
theorem RdB.grownN {w w':World}{A:Oz}{n:Nat}{r:Option Nat}{l:List Bool}(h:RdB w A n l)(hg:w.grownBy w' r)(hne:∀ g,Qaa A=some g→r≠some g):RdB w' A n l :=
 ⟨h.1,fun i x hx=>by
  obtain ⟨b,o,e,hc⟩:=h.2 i x hx;subst e;refine ⟨b,o,rfl,?_⟩;have hb:=Qaj hc;have:=hg.block b hb (fun e=>hne b rfl e.symm);unfold World.cell? at hc ⊢;rw [this];exact hc⟩
theorem Own.made {w:World}{B g s c:Nat}{e:TypeId}{cs:Array Value}(h:Blk w g e cs)(hB:B≤g)(hc:c≤9223372036854775807)(hs:cs.size=c*s):Own w B e s (some ⟨g,0,none⟩) 0 c [] :=
 ⟨Sm,.inr ⟨g,c,cs,rfl,hB,h,Nat.zero_le _,(by unfold maxLen;exact hc),hs,Sm⟩⟩
theorem RdK.far {k:IntKind}{w:World}{A:Oz}{n g i:Nat}{l:Iz}(h:RdK k w A n l)(v:Value)(hne:Qaa A≠some g):RdK k (w.setCell ⟨g,i,none⟩ v) A n l :=
 h.grown (Qac w g i v) hne
theorem RdB.far {w:World}{A:Oz}{n g i:Nat}{l:List Bool}(h:RdB w A n l)(v:Value)(hne:Qaa A≠some g):RdB (w.setCell ⟨g,i,none⟩ v) A n l :=
 ⟨h.1,fun j x hx=>by
  obtain ⟨b,o,e,hc⟩:=h.2 j x hx;subst e;refine ⟨b,o,rfl,?_⟩;have hk:=(Qac w g i v).block b (Qaj hc) (fun e=>hne e);unfold World.cell? at hc ⊢;rw [hk];exact hc⟩
theorem Qdp (n:Nat)(hn:n≤1000000000)(W:World):(Instr.makeSlice 64 (.int .i64 (n:Int)) (.int .i64 (n:Int))).run prog W=.ok (.slice (some ⟨W.heap.size,0,none⟩) n n) (W.alloc (.cells (Qbg (.int .i64 0) n) 3)) :=
 Qcv (P:=prog) 64 3 (.int .i64 0) 8 Qbm underlying64 rfl n Oo Oo .i64 .i64 W
theorem lit0 {W:World}{B:Nat}{t:TypeId}(hB:B≤W.heap.size):Own (W.alloc (.cells #[] t)) B t 1 (some ⟨W.heap.size,0,none⟩) 0 0 []:=Own.lit W #[] 0 hB Oo rfl
/-! Whichever way the next operations come up. -/
section
variable {P:Program} {ops:Array Oper} {Q:Exit→Act→World→Prop} {md:Region.Mode} {S:World→Prop}
def wpC (P:Program)(md:Region.Mode)(ops:Array Oper)(Q:Exit→Act→World→Prop)(S:World→Prop)(L:Array Bool)(C:Act→World→Prop):Nat→Array Bool→Act→World→Prop
 | 0,listed,a,w=>listed=L∧C a w
 | n+1,listed,a,w=>Region.ready md ops listed≠[]∧∀ i∈Region.ready md ops listed,wpOp P ops Q i (fun a' w'=>S w'∧wpC P md ops Q S L C n (listed.setIfInBounds i true) a' w') a w
theorem Rih {L:Array Bool}{C:Act→World→Prop}{f0:Nat}(h:∀ a w,C a w→wpAnyH P md ops Q S f0 L a w):∀ (n:Nat) (listed:Array Bool) (a:Act) (w:World),wpC P md ops Q S L C n listed a w→wpAnyH P md ops Q S (f0+n) listed a w
 | 0,_,_,_,⟨e,hc⟩=>by subst e;exact h _ _ hc
 | n+1,listed,a,w,⟨hne,hall⟩=>wpAnyH_all (fuel:=f0+n) rfl hne (fun i hi=>wpOp_mono (fun a' w' h'=>⟨h'.1,Rih h n _ a' w' h'.2⟩) (hall i hi))
def Qiv (P:Program)(md:Region.Mode)(ops:Array Oper)(Q:Exit→Act→World→Prop)(S:World→Prop)(L:Array Bool)(C:Act→World→Prop)(n:Nat)(listed:Array Bool)(a:Act)(w:World)(rs:List Nat):Prop :=
 ∀ i∈rs,wpOp P ops Q i (fun a' w'=>S w'∧wpC P md ops Q S L C n (listed.setIfInBounds i true) a' w') a w
theorem Qiv.nil {L:Array Bool}{C:Act→World→Prop}{n:Nat}{listed:Array Bool}{a:Act}{w:World}:Qiv P md ops Q S L C n listed a w []:=fun _ h=>by cases h
theorem Qiv.cons {L:Array Bool}{C:Act→World→Prop}{n:Nat}{listed:Array Bool}{a:Act}{w:World}{i:Nat}{o:Oper}{rs:List Nat} (ho:ops[i]?=some o)
 (h:∀ K':Act→World→Prop,Shut (∀ a w,S w→(S w→wpC P md ops Q S L C n (listed.setIfInBounds i true) a w)→K' a w)→if Region.wanted o (yielded ops a.tmps)=true then Oper.wp P o a w K' Q else K' (a.put o.dst undef) w)
 (hs:Qiv P md ops Q S L C n listed a w rs):Qiv P md ops Q S L C n listed a w (i::rs):=fun j hj=>by
 rcases List.mem_cons.1 hj with rfl|hj
 {exact wpOp_step ho (fun K' hK=>h K' (fun a w hS hW=>hK a w ⟨hS,hW hS⟩))};{exact hs j hj}
theorem Qdc {L:Array Bool}{C:Act→World→Prop}{rs:List Nat}{n:Nat}{listed:Array Bool}{a:Act}{w:World}(hr:Region.ready md ops listed=rs) (hne:rs≠[]) (h:Qiv P md ops Q S L C n listed a w rs):wpC P md ops Q S L C (n+1) listed a w :=
 ⟨hr▸hne,hr▸h⟩
theorem Qwc {G:Value→Value→Value→World→Prop}{L listed:Array Bool}{f0 fuel:Nat}{a:Act}{w:World}(d1 d2 d3:Option Tmp)(hf:fuel=f0+3)
 (hA:∀ C:Act→World→Prop,Shut (∀ v1 v2 v3 w',G v1 v2 v3 w'→C (((a.put d1 v1).put d2 v2).put d3 v3) w')→wpC P md ops Q S L C 3 listed a w)
 (hB:∀ v1 v2 v3 w',G v1 v2 v3 w'→wpAnyH P md ops Q S f0 L (((a.put d1 v1).put d2 v2).put d3 v3) w'):wpAnyH P md ops Q S fuel listed a w:=by subst hf;exact Rih (C:=fun a' w'=>wpAnyH P md ops Q S f0 L a' w') (fun _ _ h=>h) 3 listed a w (hA _ hB)
end
/-! Shorter words (fill.py's TAKES, TAKEU, (by repeat (first | exact Below.refl _ _ | assumption | apply Below.drew | apply Qbd | apply Bel.alloc | (refine Zi ?_ ?_; rotate_left; omega) | (refine Zb ?_ (by assumption)))), (by repeat (first | assumption | apply Blk.drewN | apply Blk.drew | apply Blk.alloc | (refine Blk.far_ ?_ ?_ _; rotate_left; omega))), (by repeat (first | assumption | (refine Blk.new' _ _ _ ?_; first | with_unfolding_all rfl | (simp; done)) | apply Blk.drewN | apply Blk.drew | apply Blk.alloc | (refine Blk.far_ ?_ ?_ _; rotate_left; omega)))) -/
theorem tv {p:Prop} (h:p:=by (intro V hSw;(try (have hF:=HSX.out V hSw));(try (cases hSw));(try go_split_ands);go_simp;try with_reducible rfl)):p:=h
section
variable {P:Program} {ops:Array Oper} {Q:Exit→Act→World→Prop} {md:Region.Mode} {S:World→Prop} {oi:Oper} {fuel:Nat} {listed:Array Bool} {a:Act} {w:World}
theorem tk (i d:Nat) (hi:ops[i]?=some oi:=by rfl) (hd:oi.dst=some d:=by rfl) (hs:Region.noSelect ops=true:=by kernel_rfl) (hf:Region.free md ops listed i=true:=by kernel_rfl) (hr:(Region.ready md ops listed).contains i=true:=by kernel_rfl)
 (hQ:∀ c a w v,Q (.panic c) (a.put oi.dst v) w→Q (.panic c) a w:=by exact fun _ _ _ _ h=>h) (hw:Region.wanted oi (yielded ops a.tmps)=true:=by rfl) (hS:S w:=by first|rfl|trivial|assumption)
 (h:∃ v,(∀ w,S w→(execOp a.eval oi).run P w=.ok (.value v) w)∧wpAnyH P md ops Q S fuel (listed.setIfInBounds i true) (a.put (some d) v) w):wpAnyH P md ops Q S (fuel+1) listed a w:=by obtain ⟨v,h1,h2⟩:=h;exact take_ (i:=i) (d:=some d) (v:=v) hi hd hs hf hr (fun c a w=>hQ c a w v) hw h1 hS h2
theorem tu (i d:Nat) (hi:ops[i]?=some oi:=by rfl) (hd:oi.dst=some d:=by rfl) (hs:Region.noSelect ops=true:=by kernel_rfl) (hf:Region.free md ops listed i=true:=by kernel_rfl) (hr:(Region.ready md ops listed).contains i=true:=by kernel_rfl)
 (hQ:∀ c a w,Q (.panic c) (a.put oi.dst undef) w→Q (.panic c) a w:=by exact fun _ _ _ h=>h) (hw:Region.wanted oi (yielded ops a.tmps)=false:=by rfl) (hS:S w:=by first|rfl|trivial|assumption)
 (h:wpAnyH P md ops Q S fuel (listed.setIfInBounds i true) (a.put (some d) undef) w):wpAnyH P md ops Q S (fuel+1) listed a w :=
 takeU_ (i:=i) (d:=some d) hi hd hs hf hr hQ hw hS h
end
theorem pE (l:List Value)(ds:List Deferred)(k:Nat)(v:Value):Act.put ⟨l.toArray,ds⟩ (some k) v=⟨(l.set k v).toArray,ds⟩:=by simp [Act.put]
theorem Qag {B:Nat}{w w':World} (h:Below B w w':=by repeat (first|exact Below.refl _ _|assumption|apply Below.drew|apply Qbd|apply Bel.alloc|(refine Zi ?_ ?_;rotate_left;omega)|(refine Zb ?_ (by assumption)))):Below B w w':=h
theorem Qiq {w:World}{g:Nat}{t:TypeId}{cs:Array Value} (h:Blk w g t cs:=by repeat (first|assumption|apply Blk.drewN|apply Blk.drew|apply Blk.alloc|(refine Blk.far_ ?_ ?_ _;rotate_left;omega))):Blk w g t cs:=h
theorem Qbi {w:World}{g:Nat}{t:TypeId}{cs:Array Value} (h:Blk w g t cs:=by repeat (first|assumption|(refine Blk.new' _ _ _ ?_;first|with_unfolding_all rfl|(simp;done))|apply Blk.drewN|apply Blk.drew|apply Blk.alloc|(refine Blk.far_ ?_ ?_ _;rotate_left;omega))):Blk w g t cs:=h
theorem tz {P:Program}{ops:Array Oper}{Q:Exit→Act→World→Prop}{md:Region.Mode}{S:World→Prop}{oi:Oper}{fuel:Nat}{listed:Array Bool}{l l':List Value}{ds:List Deferred}{w:World}{v:Value}(i d:Nat) (h:wpAnyH P md ops Q S fuel (listed.setIfInBounds i true) ⟨l'.toArray,ds⟩ w) (hi:ops[i]?=some oi:=by rfl) (hd:oi.dst=some d:=by rfl) (hs:Region.noSelect ops=true:=by kernel_rfl) (hf:Region.free md ops listed i=true:=by kernel_rfl) (hr:(Region.ready md ops listed).contains i=true:=by kernel_rfl)
    (hQ:∀ c a w v,Q (.panic c) (a.put oi.dst v) w→Q (.panic c) a w:=by exact fun _ _ _ _ h=>h) (hw:Region.wanted oi (yielded ops l.toArray)=true:=by rfl) (hS:S w:=by first|rfl|trivial|assumption) (hl:l.set d v=l':=by simp only [List.set];rfl)
    (hv:∀ w,S w→(execOp (Act.eval ⟨l.toArray,ds⟩) oi).run P w=.ok (.value v) w:=by (intro V hSw;(try (have hF:=HSX.out V hSw));(try (cases hSw));(try go_split_ands);go_simp;try with_reducible rfl)):wpAnyH P md ops Q S (fuel+1) listed ⟨l.toArray,ds⟩ w:=by subst hl;exact tk i d hi hd hs hf hr hQ hw hS ⟨v,hv,by rw [pE];exact h⟩
theorem tw {P:Program}{ops:Array Oper}{Q:Exit→Act→World→Prop}{md:Region.Mode}{S:World→Prop}{oi:Oper}{fuel:Nat}{listed:Array Bool}{l l':List Value}{ds:List Deferred}{w:World}(i d:Nat) (h:wpAnyH P md ops Q S fuel (listed.setIfInBounds i true) ⟨l'.toArray,ds⟩ w) (hi:ops[i]?=some oi:=by rfl) (hd:oi.dst=some d:=by rfl) (hs:Region.noSelect ops=true:=by kernel_rfl) (hf:Region.free md ops listed i=true:=by kernel_rfl) (hr:(Region.ready md ops listed).contains i=true:=by kernel_rfl)
    (hQ:∀ c a w,Q (.panic c) (a.put oi.dst undef) w→Q (.panic c) a w:=by exact fun _ _ _ h=>h) (hw:Region.wanted oi (yielded ops l.toArray)=false:=by rfl) (hS:S w:=by first|rfl|trivial|assumption) (hl:l.set d undef=l':=by simp only [List.set];rfl):wpAnyH P md ops Q S (fuel+1) listed ⟨l.toArray,ds⟩ w:=by subst hl;exact tu i d hi hd hs hf hr hQ hw hS (by rw [pE];exact h)
theorem Zk {P:Program}{ops:Array Oper}{Q:Exit→Act→World→Prop}{md:Region.Mode}{S:World→Prop}{fuel:Nat}{listed:Array Bool}{a:Act}{w:World}(k:Nat){o:Oper}
    (h:∀ K':Act→World→Prop,Shut (∀ a w,S w→(S w→wpAnyH P md ops Q S fuel (listed.setIfInBounds k true) a w)→K' a w)→if Region.wanted o (yielded ops a.tmps)=true then Oper.wp P o a w K' Q else K' (a.put o.dst undef) w)
    (hr:Region.ready md ops listed=[k]:=by kernel_rfl) (ho:ops[k]?=some o:=by rfl):wpAnyH P md ops Q S (fuel+1) listed a w:=wpAnyH_ready hr Sm (AllReadyH.cons ho h AllReadyH.nil)
theorem Zs {α:Type _}{l:List α}{i:Nat}{a:α} (h:l[i]?=some a):∃ h:i<l.length,l[i]=a:=List.getElem?_eq_some_iff.1 h
theorem Zg {α:Type _}{l:List α}{i:Nat}(h:i<l.length):l[i]?=some l[i]:=List.getElem?_eq_getElem h
theorem Zm {α:Type _}{l:List α}{i:Nat}{a:α} (h:l[i]?=some a):a∈l:=List.mem_of_getElem? h
theorem Zn (n:Nat):n≤n:=Nat.le_refl n
theorem Zr (B:Nat)(w:World):Below B w w:=Below.refl B w
theorem Zq {w:World}{g i:Nat}{t:TypeId}{cs:Array Value}{v:Value}(h:Blk w g t cs) (e:cs[i]?=some v:=by rfl):w.cell? ⟨g,i,none⟩=some v:=(h.cell i).trans e
theorem Zd {P:Program}{ops:Array Oper}{Q:Exit→Act→World→Prop}{md:Region.Mode}{S:World→Prop}{fuel:Nat}{listed:Array Bool}{a:Act}{w:World}(h:Q .normal a w) (hr:Region.ready md ops listed=[]:=by kernel_rfl):wpAnyH P md ops Q S fuel listed a w:=wpAnyH_done hr h _
theorem Ya {α:Type _}{l:List α}{i:Nat}{a:α}:l.getD i a=l[i]?.getD a:=List.getD_eq_getElem?_getD
theorem Yb {α:Type _}{l₁ l₂:List α}{i:Nat}(h:l₁.length≤i):(l₁ ++l₂)[i]?=l₂[i-l₁.length]?:=List.getElem?_append_right h
theorem Yc {α:Type _}{l₁ l₂:List α}{i:Nat}(h:i<l₁.length):(l₁ ++l₂)[i]?=l₁[i]?:=List.getElem?_append_left h
theorem Yd {α:Type _}{l:List α}{i:Nat}(h:l.length≤i):l[i]?=none:=List.getElem?_eq_none h
theorem Ye {α:Type _}{l:List α}{i:Nat}(h:l.length≤i):l.take i=l:=List.take_of_length_le h
theorem Yf {α:Type _}{l:List α}{i:Nat}(h:i<l.length):l.take (i+1)=l.take i ++[l[i]]:=List.take_succ_eq_append_getElem h
theorem Yg {α:Type _}{l:List α}{i:Nat}{a:α}(h:i<l.length):(l.set i a)[i]?=some a:=List.getElem?_set_self h
theorem Yh {α:Type _}{l:List α}{i j:Nat}(h:i≠j){a:α}:(l.set i a)[j]?=l[j]?:=List.getElem?_set_ne h
theorem Yi {α:Type _}{l:List α}{i:Nat}{a:α}:l.toArray.setIfInBounds i a=(l.set i a).toArray:=List.setIfInBounds_toArray ..
theorem Yj {α:Type _}{l:List α}{a b:α}:(a::l).set 0 b=b::l:=List.set_cons_zero
theorem Yk {α:Type _}{l:List α}{i:Nat}{a b:α}:(a::l).set (i+1) b=a::l.set i b:=List.set_cons_succ
theorem Yl (n:Nat):((n:Int)).toNat=n:=Int.toNat_natCast n
theorem Yn {α:Type _}{l:List α}{a:α}:(a::l)[0]?=some a:=List.getElem?_cons_zero
theorem Yo {α:Type _}{l:List α}{i:Nat}:l.toArray[i]?=l[i]?:=List.getElem?_toArray
theorem Yp {α:Type _}{l₁ l₂:List α}:(l₁ ++l₂).length=l₁.length+l₂.length:=List.length_append
theorem Yq {α:Type _}{l:List α}{i:Nat}{a:α}:(l.set i a).length=l.length:=List.length_set
theorem Yr {α:Type _}{a:α}{l:List α}(h:a∈l):∃ i:Nat,l[i]?=some a:=List.getElem?_of_mem h
theorem Yt {α β:Type _}{f:α→β}{l:List α}{i:Nat}:(l.map f)[i]?=Option.map f l[i]?:=List.getElem?_map
theorem Yu {n m k:Nat}(h:n<m)(g:m≤k):n<k:=Nat.lt_of_lt_of_le h g
theorem Yv {α:Type _}{a b:α}(h:some a=some b):a=b:=Option.some.inj h
theorem Yw {α:Type _}{i:Nat}{l:List α}:(l.take i).length=min i l.length:=List.length_take
theorem Yx {n m k:Nat}(h:n≤m)(g:m≤k):n≤k:=Nat.le_trans h g
theorem Yy (n:Nat):n-n=0:=Nat.sub_self n
theorem Yz (n:Nat):0+n=n:=Nat.zero_add n
theorem tzb {P:Program} {ops:Array Oper} {Q:Exit→Act→World→Prop} {md:Region.Mode} {S:World→Prop} {fuel:Nat} {listed:Array Bool} {l:List Value} {ds:List Deferred} {w:World} {o0 o1:Oper} {l1 l2:List Value} {v0 v1:Value} (i d:Nat) (h:wpAnyH P md ops Q S fuel ((listed.setIfInBounds i true).setIfInBounds (i+1) true) ⟨l2.toArray,ds⟩ w) (hs:Region.noSelect ops=true:=by kernel_rfl) (hS:S w:=by first | rfl | trivial | assumption)
 (hi0:ops[i]?=some o0:=by rfl) (hd0:o0.dst=some d:=by rfl) (hf0:Region.free md ops listed i=true:=by kernel_rfl) (hr0:(Region.ready md ops listed).contains i=true:=by kernel_rfl) (hQ0:∀ c a w v,Q (.panic c) (a.put o0.dst v) w→Q (.panic c) a w:=by exact fun _ _ _ _ h=>h) (hw0:Region.wanted o0 (yielded ops l.toArray)=true:=by rfl) (hl0:l.set d v0=l1:=by simp only [List.set];rfl) (hv0:∀ w,S w→(execOp (Act.eval ⟨l.toArray,ds⟩) o0).run P w=.ok (.value v0) w:=by (intro V hSw;(try (have hF:=HSX.out V hSw));(try (cases hSw));(try go_split_ands);go_simp;try with_reducible rfl))
 (hi1:ops[(i+1)]?=some o1:=by rfl) (hd1:o1.dst=some (d+1):=by rfl) (hf1:Region.free md ops (listed.setIfInBounds i true) (i+1)=true:=by kernel_rfl) (hr1:(Region.ready md ops (listed.setIfInBounds i true)).contains (i+1)=true:=by kernel_rfl) (hQ1:∀ c a w v,Q (.panic c) (a.put o1.dst v) w→Q (.panic c) a w:=by exact fun _ _ _ _ h=>h) (hw1:Region.wanted o1 (yielded ops l1.toArray)=true:=by rfl) (hl1:l1.set (d+1) v1=l2:=by simp only [List.set];rfl) (hv1:∀ w,S w→(execOp (Act.eval ⟨l1.toArray,ds⟩) o1).run P w=.ok (.value v1) w:=by (intro V hSw;(try (have hF:=HSX.out V hSw));(try (cases hSw));(try go_split_ands);go_simp;try with_reducible rfl)):wpAnyH P md ops Q S (fuel+2) listed ⟨l.toArray,ds⟩ w:=tz i d (tz (i+1) (d+1) h hi1 hd1 hs hf1 hr1 hQ1 hw1 hS hl1 hv1) hi0 hd0 hs hf0 hr0 hQ0 hw0 hS hl0 hv0
theorem tzd {P:Program} {ops:Array Oper} {Q:Exit→Act→World→Prop} {md:Region.Mode} {S:World→Prop} {fuel:Nat} {listed:Array Bool} {l:List Value} {ds:List Deferred} {w:World} {o0 o1 o2 o3:Oper} {l1 l2 l3 l4:List Value} {v0 v1 v2 v3:Value} (i d:Nat) (h:wpAnyH P md ops Q S fuel ((((listed.setIfInBounds i true).setIfInBounds (i+1) true).setIfInBounds (i+2) true).setIfInBounds (i+3) true) ⟨l4.toArray,ds⟩ w) (hs:Region.noSelect ops=true:=by kernel_rfl) (hS:S w:=by first | rfl | trivial | assumption)
 (hi0:ops[i]?=some o0:=by rfl) (hd0:o0.dst=some d:=by rfl) (hf0:Region.free md ops listed i=true:=by kernel_rfl) (hr0:(Region.ready md ops listed).contains i=true:=by kernel_rfl) (hQ0:∀ c a w v,Q (.panic c) (a.put o0.dst v) w→Q (.panic c) a w:=by exact fun _ _ _ _ h=>h) (hw0:Region.wanted o0 (yielded ops l.toArray)=true:=by rfl) (hl0:l.set d v0=l1:=by simp only [List.set];rfl) (hv0:∀ w,S w→(execOp (Act.eval ⟨l.toArray,ds⟩) o0).run P w=.ok (.value v0) w:=by (intro V hSw;(try (have hF:=HSX.out V hSw));(try (cases hSw));(try go_split_ands);go_simp;try with_reducible rfl))
 (hi1:ops[(i+1)]?=some o1:=by rfl) (hd1:o1.dst=some (d+1):=by rfl) (hf1:Region.free md ops (listed.setIfInBounds i true) (i+1)=true:=by kernel_rfl) (hr1:(Region.ready md ops (listed.setIfInBounds i true)).contains (i+1)=true:=by kernel_rfl) (hQ1:∀ c a w v,Q (.panic c) (a.put o1.dst v) w→Q (.panic c) a w:=by exact fun _ _ _ _ h=>h) (hw1:Region.wanted o1 (yielded ops l1.toArray)=true:=by rfl) (hl1:l1.set (d+1) v1=l2:=by simp only [List.set];rfl) (hv1:∀ w,S w→(execOp (Act.eval ⟨l1.toArray,ds⟩) o1).run P w=.ok (.value v1) w:=by (intro V hSw;(try (have hF:=HSX.out V hSw));(try (cases hSw));(try go_split_ands);go_simp;try with_reducible rfl))
 (hi2:ops[(i+2)]?=some o2:=by rfl) (hd2:o2.dst=some (d+2):=by rfl) (hf2:Region.free md ops ((listed.setIfInBounds i true).setIfInBounds (i+1) true) (i+2)=true:=by kernel_rfl) (hr2:(Region.ready md ops ((listed.setIfInBounds i true).setIfInBounds (i+1) true)).contains (i+2)=true:=by kernel_rfl) (hQ2:∀ c a w v,Q (.panic c) (a.put o2.dst v) w→Q (.panic c) a w:=by exact fun _ _ _ _ h=>h) (hw2:Region.wanted o2 (yielded ops l2.toArray)=true:=by rfl) (hl2:l2.set (d+2) v2=l3:=by simp only [List.set];rfl) (hv2:∀ w,S w→(execOp (Act.eval ⟨l2.toArray,ds⟩) o2).run P w=.ok (.value v2) w:=by (intro V hSw;(try (have hF:=HSX.out V hSw));(try (cases hSw));(try go_split_ands);go_simp;try with_reducible rfl))
 (hi3:ops[(i+3)]?=some o3:=by rfl) (hd3:o3.dst=some (d+3):=by rfl) (hf3:Region.free md ops (((listed.setIfInBounds i true).setIfInBounds (i+1) true).setIfInBounds (i+2) true) (i+3)=true:=by kernel_rfl) (hr3:(Region.ready md ops (((listed.setIfInBounds i true).setIfInBounds (i+1) true).setIfInBounds (i+2) true)).contains (i+3)=true:=by kernel_rfl) (hQ3:∀ c a w v,Q (.panic c) (a.put o3.dst v) w→Q (.panic c) a w:=by exact fun _ _ _ _ h=>h) (hw3:Region.wanted o3 (yielded ops l3.toArray)=true:=by rfl) (hl3:l3.set (d+3) v3=l4:=by simp only [List.set];rfl) (hv3:∀ w,S w→(execOp (Act.eval ⟨l3.toArray,ds⟩) o3).run P w=.ok (.value v3) w:=by (intro V hSw;(try (have hF:=HSX.out V hSw));(try (cases hSw));(try go_split_ands);go_simp;try with_reducible rfl)):wpAnyH P md ops Q S (fuel+4) listed ⟨l.toArray,ds⟩ w:=tz i d (tz (i+1) (d+1) (tz (i+2) (d+2) (tz (i+3) (d+3) h hi3 hd3 hs hf3 hr3 hQ3 hw3 hS hl3 hv3) hi2 hd2 hs hf2 hr2 hQ2 hw2 hS hl2 hv2) hi1 hd1 hs hf1 hr1 hQ1 hw1 hS hl1 hv1) hi0 hd0 hs hf0 hr0 hQ0 hw0 hS hl0 hv0
theorem Zx {α:Sort _} (a:α):∃ x,x=a:=⟨_,rfl⟩
def RdW (w:World)(A:Oz)(n:Nat) (l:List (ByteArray×Int)):Prop :=
 l.length=n∧∀ i x,l[i]?=some x→∃ b o,A=some ⟨b,o,none⟩∧w.cell? ⟨b,o+i*2,none⟩=some (.string x.1)∧w.cell? ⟨b,o+i*2+1,none⟩=some (.int .i64 x.2)
theorem RdW.below {w w':World}{A:Oz}{n:Nat} {l:List (ByteArray×Int)} (h:RdW w A n l) (hb:Bw w w'):RdW w' A n l :=
 ⟨h.1,fun i x hx=>by obtain ⟨b,o,e,hc,hd⟩:=h.2 i x hx;exact ⟨b,o,e,Zc hb (Zn _) hc,Zc hb (Zn _) hd⟩⟩
def Wrg (w:World)(v:Value) (ps:List (ByteArray×Int)) (c:Int):Prop:=∃ A n m,v=.agg #[.slice A n m,.int .i64 c]∧RdW w A n ps∧n≤1000000
theorem Wrg.below {w w':World}{v:Value} {ps:List (ByteArray×Int)} {c:Int} (h:Wrg w v ps c) (hb:Bw w w'):Wrg w' v ps c:=by obtain ⟨A,n,m,h1,h2,h3⟩:=h;exact ⟨A,n,m,h1,h2.below hb,h3⟩
theorem Rhi (s:ByteArray)(k c:Int)(w:World):Calls prog 28 #[.string s,.int .i64 k,.int .i64 c] w fun e w'=>∃ v,e=.returned v∧Wrg w' v [(s,k)] c∧Bw w w':=by
 go_enter func28,ntmps28
 go_wp2;refine bodyPost_ret (v:=.agg #[.slice (some ⟨w.heap.size+1,0,none⟩) 1 1,.int .i64 c]) (by simp [results,results28,go_sem]) rfl ?_;refine ⟨_,rfl,⟨_,1,1,rfl,⟨rfl,fun i x hx=>?_⟩,Oo⟩,Qag⟩
 match i,hx with
 | 0,hx=>cases hx;exact ⟨_,_,rfl,Sm,Sm⟩
 | i+1,hx=>simp at hx
open Go.Extern Go.Extern.Stop Go.Stop
theorem Qeu (t:Addr)(p:Nat)(w:World):Bw w (asX t p w):=Qag
theorem as_fault (b o g:Nat)(old:Value)(w:World)(hg:w.cell? ⟨0,0,none⟩=some Qpm)(ht0:w.cell? ⟨g,0,none⟩=some old)(hf0:w.frozen? ⟨g,0,none⟩=false) :
 Calls prog 51 #[fltV b o,.iface 108 (.pointer (some ⟨g,0,none⟩))] w fun ev w'=>ev=.returned (.bool true)∧w'.cell? ⟨g,0,none⟩=some (.pointer (some ⟨b,o,none⟩))∧Below g w w' :=
 (as_hitF ⟨b,o,none⟩ ⟨g,0,none⟩ old w hg ht0 hf0).mono fun e w' ⟨he,hw⟩=>by
  have hlt:=Qaj ht0;have hb:Below g w (asX ⟨g,0,none⟩ 108 w):=(Qeu _ _ w).mono (Nat.le_of_lt hlt);have hb2:Below g w ((asX ⟨g,0,none⟩ 108 w).alloc (.cells #[.pointer (some ⟨b,o,none⟩)] 106)):=hb.alloc (Yx (Nat.le_of_lt hlt) (Qeu _ _ w).size) _;refine ⟨he,?_,?_⟩
  · rw [hw]
    have hc:((asX ⟨g,0,none⟩ 108 w).alloc (.cells #[.pointer (some ⟨b,o,none⟩)] 106)).cell? ⟨g,0,none⟩=some old :=
     Zc (Bel.alloc (Qeu ⟨g,0,none⟩ 108 w)) (Zn _) ht0
    exact World.cell?_setCell_same _ _ _ hc
  · rw [hw];exact hb2.setCell (Zn _) _
theorem as_errno (c:Int)(g:Nat)(old:Value)(w:World)(hg:w.cell? ⟨0,0,none⟩=some Qpm)(ht0:w.cell? ⟨g,0,none⟩=some old)(hf0:w.frozen? ⟨g,0,none⟩=false) :
 Calls prog 51 #[Qwf c,.iface 113 (.pointer (some ⟨g,0,none⟩))] w fun ev w'=>ev=.returned (.bool true)∧w'.cell? ⟨g,0,none⟩=some (.int .i64 c)∧Below g w w' :=
 (as_hitE c ⟨g,0,none⟩ old w hg ht0 hf0).mono fun e w' ⟨he,hw⟩=>by
  have hlt:=Qaj ht0;have hb:Below g w (asX ⟨g,0,none⟩ 113 w):=(Qeu _ _ w).mono (Nat.le_of_lt hlt);have hb2:Below g w ((asX ⟨g,0,none⟩ 113 w).alloc (.cells #[.int .i64 c] 105)):=hb.alloc (Yx (Nat.le_of_lt hlt) (Qeu _ _ w).size) _;refine ⟨he,?_,?_⟩
  · rw [hw]
    have hc:((asX ⟨g,0,none⟩ 113 w).alloc (.cells #[.int .i64 c] 105)).cell? ⟨g,0,none⟩=some old :=
     Zc (Bel.alloc (Qeu ⟨g,0,none⟩ 113 w)) (Zn _) ht0
    exact World.cell?_setCell_same _ _ _ hc
  · rw [hw];exact hb2.setCell (Zn _) _
theorem as_none (c:Int)(g:Nat)(w:World)(hg:w.cell? ⟨0,0,none⟩=some Qpm) :
 Calls prog 51 #[Qwf c,.iface 108 (.pointer (some ⟨g,0,none⟩))] w fun ev w'=>ev=.returned (.bool false)∧Bw w w' :=
 (as_miss c ⟨g,0,none⟩ w hg).mono fun e w' ⟨he,hw⟩=>⟨he,by rw [hw];exact Qeu _ _ w⟩
theorem Ric (A:Oz)(n c:Nat)(w:World) :
 Calls prog 17 #[.nilIface,.agg #[.slice A n c,.int .i64 0]] w fun e w'=>e=.returned (.bool true)∧Bw w w':=by
 go_enter func17,ntmps17
 go_wp2;go_ret;exact ⟨rfl,Qag⟩
theorem Rbk {w:World}{v:Value} {ps:List (ByteArray×Int)} {c:Int} {k:Nat} {p:ByteArray×Int} (hk:ps[k]?=some p) (h:Qci w v (ps.drop k) c) :
 ∃ b o u,v=fltV b o∧w.cell? ⟨b,o,none⟩=some (.string p.1)∧w.cell? ⟨b,o+1,none⟩=some (.int .i64 p.2)∧w.cell? ⟨b,o+2,none⟩=some u∧Qci w u (ps.drop (k+1)) c:=by have hlt:=(Zs hk).1;rw [List.drop_eq_getElem_cons hlt] at h;have e:ps[k]=p:=(Zs hk).2;rw [e] at h;exact h
attribute [local go_sem ↓] Go.wp_at_zero Go.wp_at_succ
theorem Qvw (v:Value)(A:Oz)(n c:Nat) (ps:List (ByteArray×Int)) (c0:Int) (w:World) (h:Qci w v ps c0) (hr:RdW w A n ps) (hc0:c0≠0) (hg:w.cell? ⟨0,0,none⟩=some Qpm) (hn:n≤4000000000000000000) :
 Calls prog 17 #[v,.agg #[.slice A n c,.int .i64 c0]] w fun e w'=>e=.returned (.bool true)∧Bw w w':=by
 have HI:∀ (W:World),Bw w W→Calls prog 50 #[v,Qwf c0] W fun e w'=>e=.returned (.bool true)∧w'=W:=fun W hb=>errorsIs v ps c0 W (Qci.below hb h)
 have HI':=Zh HI;clear HI;obtain ⟨tvv,xv,hv⟩:=Qaw h;have hlt0:=Qaj hg;have HC:=Zh hc0;have HCH:=Zh h;subst hv;clear h;go_enter func17,ntmps17
 go_wp2_with fail
 with_reducible refine (HI'.o _ Qag).mono ?_
 rintro e w' ⟨rfl,rfl⟩;clear HI';go_wp2_with fail
 (refine Qai ?_;intro w1 hw1);have hb1:Bw w w1:=by rw [hw1];exact Qag
 have hx0:w1.cell? ⟨w.heap.size,0,none⟩=some (.slice A n c):=by rw [hw1];simp
 have hx1:w1.cell? ⟨w.heap.size,1,none⟩=some (.int .i64 c0):=by rw [hw1];simp
 have hg1:w1.cell? ⟨0,0,none⟩=some Qpm:=Zc hb1 (Zn _) hg;have hr1:=hr.below hb1;have hch:=Qci.below hb1 HCH.o;have HCH1:=Zh hch;clear hch HCH hr hw1 hg;go_loopw [0,5] (fun u i W=>∃ (k:Nat),k≤n∧i=.int .i64 k∧Qci W u (ps.drop k) c0∧Bw w1 W) (fun _ i _=>n-(intOf i).toNat)
 case atStart=>exact ⟨0,Nat.zero_le _,rfl,HCH1.o,Zr _ _⟩
 case round =>
  obtain ⟨k,hk,rfl,hch,hbl⟩:=hrel;have y0:=Zc hbl (Zn _) hx0;by_cases hlt:k<n
  · have hlen:=hr1.1;obtain ⟨p,hp⟩:∃ p,ps[k]?=some p:=⟨ps[k],Zg Oo⟩;obtain ⟨pb,po,rfl,hp1,hp2⟩:=hr1.2 k p hp;obtain ⟨b,o,u,rfl,hc1,hc2,hc3,hc4⟩:=Rbk hp hch;obtain ⟨tu,xu,hu⟩:=Qaw hc4;have HP:=Zh hp;have H4:=Zh hc4;have z:=hbl.size;clear hp hch hlen hc4;subst hu;obtain ⟨s,q0⟩:=p;(go_wp2_with fail);(refine Qai ?_;intro W5 hW5);(have hb5:Bw w1 W5:=by rw [hW5];exact Qag);(have hbr:Bw wr W5:=by rw [hW5];exact Qag);(have ht5:W5.cell? ⟨wr.heap.size,0,none⟩=some (.pointer none):=by rw [hW5];simp);(have hf5:W5.frozen? ⟨wr.heap.size,0,none⟩=false:=by rw [hW5];simp);have hg5:=Zc hb5 (Zn _) hg1;have hz5:=Qaj ht5
    have HA:∀ V,Bw W5 V→Calls prog 51 #[fltV b o,.iface 108 (.pointer (some ⟨wr.heap.size,0,none⟩))] V fun ev w'=>ev=.returned (.bool true)∧w'.cell? ⟨wr.heap.size,0,none⟩=some (.pointer (some ⟨b,o,none⟩))∧Below wr.heap.size W5 w':=fun V hV =>
     (as_fault b o wr.heap.size _ V (Zc hV (Zn _) hg5) (Zc hV (Zn _) ht5) ((Below.frozenOf hV hz5).trans hf5)).mono fun _ _ ⟨h1,h2,h3⟩=>⟨h1,h2,(hV.mono (Nat.le_of_lt hz5)).trans h3⟩
    have HA':=Zh HA;clear HA;clear hW5 hf5 hg5;refine wp_region_held_drew (S:=fun _=>True) Kf trivial (fun _=>?_);refine tzb 0 31 ?_;refine Zk 2 (fun K hK=>?_);go_simp;(go_at_call 51);(with_reducible refine (HA'.o _ Qag).mono ?_);rintro e w6 ⟨rfl,ht6,hb6⟩;have hb7:Bw wr w6:=hbr.trans hb6;have c6:=Zc hb7 (Zn _) hc1;have d6:=Zc hb7 (Zn _) hc2;have e6:=Zc hb7 (Zn _) hc3;have y6:=Zc hb7 (Zn _) y0;have p6:=Zc hb7 (Zn _) (Zc hbl (Zn _) hp1);have q6:=Zc hb7 (Zn _) (Zc hbl (Zn _) hp2);(go_wp2_with fail);(refine hK.out _ _ trivial (fun _=>?_);clear hK K;refine Qpj (S':=fun V=>V=w6) (fun _ _=>trivial) _ _ _ _ ?_;have i1:0≤(k:Int):=Oo);(have i2:(k:Int)<n:=Oo);clear hc1 hc2 hc3 y0 hp1 hp2 HA' hx1 hb5 hbr ht5 hz5;refine tzd 3 34 ?_;refine tzd 7 38 ?_;refine tzd 11 42 ?_;refine tzd 15 46 ?_;refine tzd 19 50 ?_;refine tzd 23 54 ?_;refine tzd 27 58 ?_;refine tzb 31 62 ?_;refine tz 33 64 ?_;refine Zd ?_;(go_wp2_with fail);exact ⟨⟨k+1,Oo,by go_num,Qci.below hb7 H4.o,Zb hbl hb7⟩,by simp [intOf];omega⟩
  {(obtain rfl:k=n:=Oo);rw [List.drop_of_length_le (by have:=hr1.1;omega)] at hch;unfold Qci at hch;subst hch;have x1:=Zc hbl (Zn _) hx1;have gr:=Zc hbl (Zn _) hg1;have z:=hbl.size;clear hx0 hr1 hx1;(go_wp2_with fail);(refine Qab ?_;intro W5 hW5);(have hbr:Bw wr W5:=by rw [hW5];exact Qag);(have ht5:W5.cell? ⟨wr.heap.size+1,0,none⟩=some (.int .i64 0):=by rw [hW5];simp);(have hf5:W5.frozen? ⟨wr.heap.size+1,0,none⟩=false:=by rw [hW5];simp);(have g5:=Zc hbr (Zn _) gr;have z5:=Qaj ht5;clear hW5;with_reducible refine (as_none c0 wr.heap.size _ g5).mono ?_);rintro e w6 ⟨rfl,hb6⟩;have hb56:=hbr.trans (hb6.mono hbr.size);(go_wp2_with fail);(with_reducible refine (as_errno c0 (wr.heap.size+1) _ _ (Zc hb6 (Zn _) g5) (Zc hb6 (Zn _) ht5) ((Below.frozenOf hb6 z5).trans hf5)).mono ?_);rintro e w7 ⟨rfl,ht7,hb7⟩;have hb8:Bw wr w7:=hb56.trans (hb7.mono (Nat.le_succ _));have x7:=Zc hb8 (Zn _) x1;clear hb6 hb7 hb56 ht5 hf5;exact Kck}
end Go.Proofs.YtkaaakbejnlbgaaGreatDoor
namespace Go.Proofs.YtkaaakbejnlbgaaGreatDoor
/-! Least costs over steps; plain. -/
abbrev Qbu:=Nat→Nat→Int→Prop
inductive Rch (St:Qbu) (s:Nat):Nat→Int→Prop
 | start:Rch St s s 0
 | step {p q:Nat} {c d:Int}:Rch St s p c→St p q d→Rch St s q (c+d)
theorem Rch.pos {St:Qbu}(h0:∀ p q d,St p q d→0≤d){s p:Nat}{c:Int}(h:Rch St s p c):0≤c:=by
 induction h with
 | start=>exact Int.le_refl _
 | step _ h2 ih=>have:=h0 _ _ _ h2;omega
theorem Rch.trans {St:Qbu}{s p q:Nat}{c d:Int}(h:Rch St s p c)(g:Rch St p q d):Rch St s q (c+d):=by
 induction g with
 | start=>simpa using h
 | step _ h2 ih=>rw [←Int.add_assoc];exact ih.step h2
theorem Rch.mono {St St':Qbu}(hm:∀ p q d,St p q d→St' p q d){s p:Nat}{c:Int}(h:Rch St s p c):Rch St' s p c:=by
 induction h with
 | start=>exact .start
 | step _ h2 ih=>exact ih.step (hm _ _ _ h2)
def Qwl (St Out:Qbu)(s k:Nat)(v:Int):Prop:=∃ p c d,Rch St s p c∧Out p k d∧v=c+d
def INF:Int:=1152921504606846976
def Lst (P:Int→Prop)(v:Int):Prop:=(P v∧∀ c,P c→v≤c)∨(v=INF∧∀ c,¬P c)
theorem Lst.uniq {P:Int→Prop}{a b:Int}(h:Lst P a)(g:Lst P b):a=b:=by
 rcases h with ⟨h1,h2⟩|⟨h1,h2⟩ <;> rcases g with ⟨g1,g2⟩|⟨g1,g2⟩
 {have:=h2 _ g1;have:=g2 _ h1;omega};{exact absurd h1 (g2 _)};{exact absurd g1 (h2 _)};{rw [h1,g1]}
theorem Lst.conv {P Q:Int→Prop}{v:Int}(h:Lst P v)(h1:∀ c,P c→∃ d,Q d∧d≤c)(h2:∀ c,Q c→∃ d,P d∧d≤c):Lst Q v:=by
 rcases h with ⟨hv,hm⟩|⟨hv,hn⟩
 {(left);(obtain ⟨d,hd,hle⟩:=h1 v hv;obtain ⟨e,he,hle2⟩:=h2 d hd;have h3:=hm e he;have:d=v:=Oo);subst this;refine ⟨hd,fun c hc=>?_⟩;obtain ⟨e,he,hle⟩:=h2 c hc;have:=hm e he;omega};{(right);refine ⟨hv,fun c hc=>?_⟩;obtain ⟨e,he,_⟩:=h2 c hc;exact hn e he}
/-! Cells within cells: K p: the kid in which one stands behind p; In: the steps within a kid. -/
structure Qne (St Out:Qbu) (SK:Qbu) (E:Nat→Nat→Int→Prop) (CSt COut:Qbu) (ins:Nat→Prop) (W:Nat→Int) (T:Nat→Nat→Int→Prop):Prop where
 /-- a step within a kid is a step; what is no such step goes out of the kid, by an arc that is an entry's end -/
 sub:∀ p q d,SK p q d→St p q d
 split:∀ p q d,St p q d→SK p q d∨(ins q∧∃ t,T p q t∧d=t+W q∧0≤W q)
 join:∀ a p q c t,ins a→Rch SK a p c→T p q t→(∃ d,St p q d∧¬SK p q d)→St p q (t+W q)
 /-- coarse steps -/
 cst:∀ a q d,CSt a q d→ins a∧ins q∧∃ v,E a q v∧d=v+W q∧(∃ p c t,Rch SK a p c∧T p q t∧v=c+t∧St p q (t+W q))
 cst2:∀ a p q c t,ins a→Rch SK a p c→T p q t→ins q→St p q (t+W q)→¬SK p q (t+W q)→∃ d,CSt a q d∧d≤c+t+W q
 cout:∀ a k d,COut a k d→∃ p c t,Rch SK a p c∧Out p k t∧d=c+t
 cout2:∀ a p k c t,ins a→Rch SK a p c→Out p k t→∃ d,COut a k d∧d≤c+t
theorem Qne.up {St Out SK:Qbu}{E:Nat→Nat→Int→Prop}{CSt COut:Qbu}{ins:Nat→Prop}{W:Nat→Int}{T:Nat→Nat→Int→Prop}(h:Qne St Out SK E CSt COut ins W T)
 {s q:Nat} {c:Int} (hr:Rch CSt s q c):Rch St s q c:=by
 induction hr with
 | start=>exact .start
 | step h1 h2 ih =>obtain ⟨_,_,v,_,rfl,p,c',t,h3,h4,rfl,h5⟩:=h.cst _ _ _ h2;have:=(ih.trans (h3.mono h.sub)).step h5;rw [show ∀ a b c d:Int,a+b+(c+d)=a+(b+c+d) from fun a b c d=>by omega] at this;exact this
theorem Qne.down {St Out SK:Qbu}{E:Nat→Nat→Int→Prop}{CSt COut:Qbu}{ins:Nat→Prop}{W:Nat→Int}{T:Nat→Nat→Int→Prop}(h:Qne St Out SK E CSt COut ins W T)
 (hsk:∀ p q d,St p q d→SK p q d∨¬SK p q d) {s q:Nat} {c:Int} (hs:ins s) (hr:Rch St s q c):∃ a c1 c2,ins a∧Rch CSt s a c1∧Rch SK a q c2∧c1+c2≤c:=by
 induction hr with
 | start=>exact ⟨s,0,0,hs,.start,.start,Oo⟩
 | @step p q c d h1 h2 ih =>
  obtain ⟨a,c1,c2,ha,g1,g2,g3⟩:=ih;rcases hsk _ _ _ h2 with hk|hk
  {exact ⟨a,c1,c2+d,ha,g1,g2.step hk,Oo⟩};{(rcases h.split _ _ _ h2 with hk'|⟨hq,t,ht,rfl,hw⟩);{exact absurd hk' hk};{obtain ⟨e,he,hle⟩:=h.cst2 a p q c2 t ha g2 ht hq h2 hk;exact ⟨q,c1+e,0,hq,g1.step he,.start,Oo⟩}}
theorem Qne.same {St Out SK:Qbu}{E:Nat→Nat→Int→Prop}{CSt COut:Qbu}{ins:Nat→Prop}{W:Nat→Int}{T:Nat→Nat→Int→Prop}(h:Qne St Out SK E CSt COut ins W T)
 (hsk:∀ p q d,St p q d→SK p q d∨¬SK p q d) {s k:Nat} {v:Int} (hs:ins s) (hl:Lst (Qwl CSt COut s k) v):Lst (Qwl St Out s k) v:=by refine hl.conv (fun c hc=>?_) (fun c hc=>?_);{obtain ⟨a,c1,d,h1,h2,rfl⟩:=hc;obtain ⟨p,c2,t,h3,h4,rfl⟩:=h.cout _ _ _ h2;exact ⟨_,⟨p,c1+c2,t,(h.up h1).trans (h3.mono h.sub),h4,rfl⟩,Oo⟩};{obtain ⟨p,c1,t,h1,h2,rfl⟩:=hc;obtain ⟨a,e1,e2,ha,g1,g2,g3⟩:=h.down hsk hs h1;obtain ⟨d,hd,hle⟩:=h.cout2 a p k e2 t ha g2 h2;exact ⟨_,⟨a,e1,d,g1,hd,rfl⟩,Oo⟩}
/-! The least first. -/
structure Dij (St:Qbu) (s:Nat) (dn:Nat→Option Int) (hp:Nat→Option Int):Prop where
 dr:∀ p c,dn p=some c→Rch St s p c
 dm:∀ p c,dn p=some c→∀ e,Rch St s p e→c≤e
 hr:∀ p c,hp p=some c→Rch St s p c
 off:∀ p c,dn p=some c→hp p=none
 on:∀ p c q d,dn p=some c→St p q d→(∃ e,dn q=some e∧e≤c+d)∨(∃ e,hp q=some e∧e≤c+d)
 st:dn s≠none∨∃ e,hp s=some e∧e≤0
theorem Dij.wait {St:Qbu}{s:Nat}{dn hp:Nat→Option Int}(h:Dij St s dn hp)(h0:∀ p q d,St p q d→0≤d){p:Nat}{c:Int}(hr:Rch St s p c):(∃ e,dn p=some e∧e≤c)∨∃ q e,hp q=some e∧e≤c:=by
 induction hr with
 | start =>
  rcases h.st with h1|⟨e,h1,h2⟩
  · left
    cases hd:dn s with
    | none=>exact absurd hd h1
    | some e=>exact ⟨e,rfl,h.dm s e hd 0 .start⟩
  {exact .inr ⟨s,e,h1,h2⟩}
 | @step p q c d h1 h2 ih =>
  have hd:=h0 _ _ _ h2;rcases ih with ⟨e,h3,h4⟩|⟨r,e,h3,h4⟩
  {(rcases h.on p e q d h3 h2 with ⟨f,h5,h6⟩|⟨f,h5,h6⟩);{exact .inl ⟨f,h5,Oo⟩};{exact .inr ⟨q,f,h5,Oo⟩}};{exact .inr ⟨r,e,h3,Oo⟩}
theorem Dij.least {St:Qbu}{s:Nat}{dn hp:Nat→Option Int}(h:Dij St s dn hp)(h0:∀ p q d,St p q d→0≤d){p:Nat}{c:Int}(hp1:hp p=some c)(hm:∀ q e,hp q=some e→c≤e):∀ e,Rch St s p e→c≤e:=by
 intro e hr;rcases h.wait h0 hr with ⟨f,h1,_⟩|⟨q,f,h1,h2⟩
 {have:=h.off p f h1;rw [hp1] at this;cases this};{have:=hm q f h1;omega}
theorem Dij.all {St:Qbu}{s:Nat}{dn hp:Nat→Option Int}(h:Dij St s dn hp)(h0:∀ p q d,St p q d→0≤d)(he:∀ q,hp q=none){p:Nat}{c:Int}(hr:Rch St s p c):∃ e,dn p=some e∧e≤c:=by
 rcases h.wait h0 hr with h1|⟨q,e,h1,_⟩
 {exact h1};{rw [he q] at h1;cases h1}
structure Qlr (St:Qbu) (s:Nat) (dn hp:Nat→Option Int) (p:Nat) (c:Int) (Gone:Nat→Int→Prop):Prop where
 dr:∀ q e,dn q=some e→Rch St s q e
 dm:∀ q e,dn q=some e→∀ f,Rch St s q f→e≤f
 hr:∀ q e,hp q=some e→Rch St s q e
 off:∀ q e,dn q=some e→hp q=none
 on:∀ q e r d,dn q=some e→St q r d→(q=p∧¬Gone r d)∨(∃ f,dn r=some f∧f≤e+d)∨(∃ f,hp r=some f∧f≤e+d)
 st:dn s≠none∨∃ e,hp s=some e∧e≤0
 at_:dn p=some c
theorem Dij.take {St:Qbu}{s:Nat}{dn hp:Nat→Option Int}(h:Dij St s dn hp)(h0:∀ p q d,St p q d→0≤d){p:Nat}{c:Int}(hp1:hp p=some c)(hm:∀ q e,hp q=some e→c≤e) :
 Qlr St s (fun q=>if q=p then some c else dn q) (fun q=>if q=p then none else hp q) p c (fun _ _=>False) where
 dr:=fun q e he=>by
  by_cases hq:q=p;{subst hq;simp at he;subst he;exact h.hr q c hp1};{simp [hq] at he;exact h.dr q e he}
 dm:=fun q e he f hf=>by
  by_cases hq:q=p;{subst hq;simp at he;subst he;exact h.least h0 hp1 hm f hf};{simp [hq] at he;exact h.dm q e he f hf}
 hr:=fun q e he=>by
  by_cases hq:q=p;{simp [hq] at he};{simp [hq] at he;exact h.hr q e he}
 off:=fun q e he=>by
  by_cases hq:q=p;{simp [hq]};{simp [hq] at he ⊢;exact h.off q e he}
 on:=fun q e r d he hs=>by
  by_cases hq:q=p;{exact .inl ⟨hq,fun h=>h⟩};{simp [hq] at he;(right);(rcases h.on q e r d he hs with ⟨f,h1,h2⟩|⟨f,h1,h2⟩);{by_cases hr:r=p;{subst hr;have:=h.off r f h1;rw [hp1] at this;cases this};{exact .inl ⟨f,by simp [hr,h1],h2⟩}};{by_cases hr:r=p;{subst hr;rw [hp1] at h1;cases h1;exact .inl ⟨c,Sm,h2⟩};{exact .inr ⟨f,by simp [hr,h1],h2⟩}}}
 st:=by
  by_cases hs:s=p;{left;simp [hs]};{(rcases h.st with h1|⟨e,h1,h2⟩);{left;simpa [hs] using h1};{right;exact ⟨e,by simp [hs,h1],h2⟩}}
 at_:=by simp
theorem Qlr.put {St:Qbu}{s:Nat}{dn hp hp':Nat→Option Int}{p q:Nat}{c d:Int}{Gone:Nat→Int→Prop}(h:Qlr St s dn hp p c Gone)(hs:St p q d)
 (hput:(dn q≠none∧(∀ e,dn q=some e→e≤c+d)∧hp'=hp)∨(dn q=none∧(∀ r,r≠q→hp' r=hp r)∧((∃ e,hp q=some e∧e≤c+d∧hp' q=some e)∨((∀ e,hp q=some e→c+d≤e)∧hp' q=some (c+d))))) :
 Qlr St s dn hp' p c (fun r e=>Gone r e∨(r=q∧e=d)) where
 dr:=h.dr
 dm:=h.dm
 hr:=fun r e he=>by
  rcases hput with ⟨_,_,rfl⟩|⟨_,h2,h3⟩
  · exact h.hr r e he
  · by_cases hr:r=q
    · subst hr
      rcases h3 with ⟨f,h4,_,h5⟩|⟨_,h5⟩
      · rw [h5] at he;cases he;exact h.hr r _ h4
      · rw [h5] at he;cases he;exact (h.dr p c h.at_).step hs
    · rw [h2 r hr] at he;exact h.hr r e he
 off:=fun r e he=>by
  rcases hput with ⟨_,_,rfl⟩|⟨h1,h2,_⟩
  · exact h.off r e he
  · by_cases hr:r=q
    · subst hr;rw [h1] at he;cases he
    · rw [h2 r hr];exact h.off r e he
 on:=fun r e t f he hst=>by
  have key:∀ g,(∃ x,hp t=some x∧x≤g)→∃ x,hp' t=some x∧x≤g:=fun g ⟨x,h1,h2⟩=>by
   rcases hput with ⟨_,_,rfl⟩|⟨_,h4,h5⟩
   · exact ⟨x,h1,h2⟩
   · by_cases ht:t=q
     · subst ht
       rcases h5 with ⟨y,h6,_,h7⟩|⟨h6,h7⟩
       · rw [h1] at h6;cases h6;exact ⟨x,h7,h2⟩
       · exact ⟨c+d,h7,by have:=h6 x h1;omega⟩
     · exact ⟨x,by rw [h4 t ht];exact h1,h2⟩
  rcases h.on r e t f he hst with ⟨h1,h2⟩|h1|h1
  · by_cases hg:t=q∧f=d
    · obtain ⟨rfl,rfl⟩:=hg
      subst h1;rw [h.at_] at he
      cases he
      right
      rcases hput with ⟨h3,h4,rfl⟩|⟨h3,h4,h5⟩
      · left
        cases hd:dn t with
        | none=>exact absurd hd h3
        | some x=>exact ⟨x,rfl,h4 x hd⟩
      · right
        rcases h5 with ⟨y,h6,h7,h8⟩|⟨_,h8⟩
        · exact ⟨y,h8,h7⟩
        · exact ⟨_,h8,Int.le_refl _⟩
    · exact .inl ⟨h1,fun hx=>hx.elim h2 hg⟩
  · exact .inr (.inl h1)
  · exact .inr (.inr (key _ h1))
 st:=by
  rcases h.st with h1|⟨e,h1,h2⟩
  · exact .inl h1
  · right
    rcases hput with ⟨_,_,rfl⟩|⟨_,h4,h5⟩
    · exact ⟨e,h1,h2⟩
    · by_cases ht:s=q
      · subst ht
        rcases h5 with ⟨y,h6,_,h7⟩|⟨h6,h7⟩
        · rw [h1] at h6;cases h6;exact ⟨e,h7,h2⟩
        · exact ⟨c+d,h7,by have:=h6 e h1;omega⟩
      · exact ⟨e,by rw [h4 s ht];exact h1,h2⟩
 at_:=h.at_
theorem Qlr.done {St:Qbu}{s:Nat}{dn hp:Nat→Option Int}{p:Nat}{c:Int}{Gone:Nat→Int→Prop}(h:Qlr St s dn hp p c Gone)(hg:∀ q d,St p q d→Gone q d):Dij St s dn hp :=
 ⟨h.dr,h.dm,h.hr,h.off,fun q e r d h1 h2=>by
  rcases h.on q e r d h1 h2 with ⟨h3,h4⟩|h3|h3
  · subst h3;exact absurd (hg r d h2) h4
  · exact .inl h3
  · exact .inr h3,h.st⟩
structure Rde (Out:Qbu) (dn:Nat→Option Int) (k:Nat) (b:Int) (Extra:Int→Prop):Prop where
 lo:∀ p c d,dn p=some c→Out p k d→¬Extra (c+d)→b≤c+d
 hit:b=INF∨∃ p c d,dn p=some c∧Out p k d∧b=c+d
theorem Rde.least {St Out:Qbu}{s k:Nat}{dn hp:Nat→Option Int}{b:Int}(h:Dij St s dn hp)(h0:∀ p q d,St p q d→0≤d)(he:∀ q,hp q=none) (hb:Rde Out dn k b (fun _=>False)) (hlt:∀ p c d,dn p=some c→Out p k d→c+d<INF):Lst (Qwl St Out s k) b:=by
 rcases hb.hit with h1|⟨p,c,d,h1,h2,h3⟩
 {(right);refine ⟨h1,fun v ⟨p,c,d,h2,h3,h4⟩=>?_⟩;obtain ⟨e,h5,_⟩:=h.all h0 he h2;have:=hb.lo p e d h5 h3 (fun h=>h);have:=hlt p e d h5 h3;omega};{(left);refine ⟨⟨p,c,d,h.dr p c h1,h2,h3⟩,fun v ⟨q,e,f,h4,h5,h6⟩=>?_⟩;obtain ⟨x,h7,h8⟩:=h.all h0 he h4;have:=hb.lo q x f h7 h5 (fun h=>h);omega}
open Go.Proofs.Tryz Go.RowKit
def held (a:Int):Int:=if a<0 then 0 else if a > INF then INF else a
def Qio (a b:Int):Int:=held (held a+held b)
theorem Qnt (a:Int):0≤held a:=by unfold held INF;split <;> (try split) <;> omega
theorem Qns (a:Int):held a≤INF:=by unfold held INF;split <;> (try split) <;> omega
theorem Qxh {a:Int}(h:0≤a)(h':a≤INF):held a=a:=by unfold held;unfold INF at *;split <;> (try split) <;> omega
theorem Rdq (a b:Int):0≤Qio a b:=Qnt _
theorem Qwm (a b:Int):Qio a b≤INF:=Qns _
theorem Qre {a b:Int}(h:0≤a)(h':a≤INF)(g:0≤b)(g':b≤INF):Qio a b=min (a+b) INF:=by unfold Qio;rw [Qxh h h',Qxh g g'];unfold held;split <;> (try split) <;> omega
theorem held1 {a:Int}(h:a<0):held a=0:=by unfold held;rw [if_pos h]
theorem held2 {a:Int}(h:a > 1152921504606846976):held a=1152921504606846976:=by unfold held INF;rw [if_neg Oo,if_pos h]
theorem held3 {a:Int}(h:0≤a)(g:a≤1152921504606846976):held a=a:=Qxh h g
theorem Qyj (a:Int)(w:World):Calls prog 63 #[.int .i64 a] w fun e w'=>e=.returned (.int .i64 (held a))∧w=w':=by
 by_cases h1:a<0
 {have e:=Zh (held1 h1);(go_enter func63,ntmps63);exact Kch};{by_cases h2:a > 1152921504606846976;{have e:=Zh (held2 h2);(go_enter func63,ntmps63);exact Kch};{have e:=Zh (held3 Oo (by omega:a≤1152921504606846976));(go_enter func63,ntmps63);exact Kch}}
theorem Qua (a:Int)(w:World):Calls prog 135 #[.int .i64 a] w fun e w'=>e=.returned (.int .i64 (held a))∧w=w':=by
 by_cases h1:a<0
 {have e:=Zh (held1 h1);(go_enter func135,ntmps135);exact Kch};{by_cases h2:a > 1152921504606846976;{have e:=Zh (held2 h2);(go_enter func135,ntmps135);exact Kch};{have e:=Zh (held3 Oo (by omega:a≤1152921504606846976));(go_enter func135,ntmps135);exact Kch}}
theorem Qlk (a b:Int)(w:World):Calls prog 31 #[.int .i64 a,.int .i64 b] w fun e w'=>e=.returned (.int .i64 (Qio a b))∧w=w':=by
 have a1:=Qnt a;have a2:=Qns a;have b1:=Qnt b;have b2:=Qns b;unfold INF at a2 b2;have hw:IntKind.i64.wrap (held a+held b)=held a+held b:=IntWalk.i64_in _ Oo;have HE:=Zh (show Qio a b=held (held a+held b) from rfl);have c1:=Zh (show ∀ a W,Calls prog 63 #[.int .i64 a] W fun e w'=>e=.returned (.int .i64 (held a))∧W=w' from Qyj);go_enter func31,ntmps31
 go_wp2_with (go_at_call 63;refine (c1.out _ _).mono ?_;rintro e w' ⟨rfl,rfl⟩)
 go_ret;exact ⟨Qav HE.o.symm,rfl⟩
theorem Qiz (a b:Int)(w:World):Calls prog 80 #[.int .i64 a,.int .i64 b] w fun e w'=>e=.returned (.int .i64 (Qio a b))∧w=w':=by
 have a1:=Qnt a;have a2:=Qns a;have b1:=Qnt b;have b2:=Qns b;unfold INF at a2 b2;have hw:IntKind.i64.wrap (held a+held b)=held a+held b:=IntWalk.i64_in _ Oo;have HE:=Zh (show Qio a b=held (held a+held b) from rfl);have c1:=Zh (show ∀ a W,Calls prog 135 #[.int .i64 a] W fun e w'=>e=.returned (.int .i64 (held a))∧W=w' from Qua);go_enter func80,ntmps80
 go_wp2_with (go_at_call 135;refine (c1.out _ _).mono ?_;rintro e w' ⟨rfl,rfl⟩)
 go_ret;exact ⟨Qav HE.o.symm,rfl⟩
theorem Qbe (s:ByteArray)(k c:Int)(w:World):Calls prog 74 #[.string s,.int .i64 k,.int .i64 c] w fun e w'=>∃ v,e=.returned v∧Qci w' v [(s,k)] c∧Bw w w':=by
 go_enter func74,ntmps74
 exact Kdx
def costB (c:Int):Bool:=decide (0≤c) && decide (c≤INF)
def rowB (n:Nat)(l:Iz):Bool:=l.length == n && l.all costB
def sqB (n:Nat) (ls:Lz):Bool:=ls.length == n && ls.all (rowB n)
theorem rowB_all {n:Nat}{l:Iz}(hn:l.length=n) (h:∀ (i:Nat) x,l[i]?=some x→0≤x∧x≤1152921504606846976):rowB n l=true:=by unfold rowB;simp only [hn,beq_self_eq_true,Bool.true_and,List.all_eq_true];intro x hx;obtain ⟨i,hi,e⟩:=List.getElem_of_mem hx;have:=h i x (by rw [Zg hi,e]);unfold costB INF;simp;omega
theorem sqB_all {n:Nat} {ls:Lz} (hn:ls.length=n) (h:∀ (i:Nat) l,ls[i]?=some l→rowB n l=true):sqB n ls=true:=by unfold sqB;simp only [hn,beq_self_eq_true,Bool.true_and,List.all_eq_true];intro x hx;obtain ⟨i,hi,e⟩:=List.getElem_of_mem hx;exact h i x (by rw [Zg hi,e])
theorem Qoy {n i:Nat} {ls:Lz} {l:Iz} (h:sqB n ls=true) (hl:ls[i]?=some l):l.length=n∧∀ x∈l,0≤x∧x≤INF:=by unfold sqB at h;simp only [Bool.and_eq_true,List.all_eq_true] at h;have:=h.2 l (Zm hl);unfold rowB at this;simp only [Bool.and_eq_true,List.all_eq_true,beq_iff_eq] at this;exact ⟨this.1,fun x hx=>by have:=this.2 x hx;unfold costB at this;simpa using this⟩
theorem Qsz {n:Nat} {ls:Lz} (h:sqB n ls=true):ls.length=n:=by unfold sqB at h;simp only [Bool.and_eq_true,beq_iff_eq] at h;exact h.1
theorem Qlu (A:Oz)(n c:Nat) (ls:Lz) (w:World) (h:RdT w A n ls) (hs:sqB n ls=true) (hn:n≤4000000000000000000) :
 Calls prog 79 #[.int .i64 n,.slice A n c] w fun e w'=>e=.returned .nilIface∧w=w':=by
 have HG:=Zh (show ∀ (i:Nat) l,ls[i]?=some l→l.length=n∧∀ x∈l,0≤x∧x≤INF from fun i l hl=>Qoy hs hl);clear hs;go_enter func79,ntmps79
 go_wp2_with fail
 go_loop [16] (fun i=>∃ k:Nat,k≤n∧i=.int .i64 k) (fun i=>n-(intOf i).toNat)
 case atStart=>exact ⟨0,Nat.zero_le _,rfl⟩
 case round =>
  obtain ⟨k,hk,rfl⟩:=hrel;by_cases hlt:k<n
  {obtain ⟨b,o,A1,n1,c1,l,rfl,hl,hc,hr,hr1,hr2⟩:=h.at_ hlt;(obtain ⟨g1,g2⟩:=HG.o _ _ hl;have hll:=hr.1;obtain rfl:n1=n:=Oo);have G2:=Zh g2;clear hl g2 g1 hll;(go_wp2_with fail);(go_loop [29] (fun i=>∃ m:Nat,m≤n1∧i=.int .i64 m) (fun i=>n1-(intOf i).toNat));(case atStart=>exact ⟨0,Nat.zero_le _,rfl⟩);case round =>obtain ⟨m,hm,rfl⟩:=hrel;(by_cases hlt2:m<n1);{obtain ⟨b2,o2,x,rfl,hx,hc2⟩:=hr.at_ hlt2;(have hx2:=G2.out x (Zm hx);unfold INF at hx2;clear hx;have p1:¬x<0:=Oo);(have p2:¬x > 1152921504606846976:=Oo);clear hx2;(go_wp2_with fail);(go_round);(case rel=>exact ⟨m+1,Oo,by go_num⟩);case measure=>simp [intOf];omega};{(go_wp2_with fail);(go_round);(case rel=>exact ⟨k+1,Oo,by go_num⟩);case measure=>simp [intOf];omega}};{(go_wp2_with fail);exact Kax}
def Qas (ls:Lz) (i j:Nat):Int:=((ls[i]?).bind (·[j]?)).getD INF
theorem Qna {ls:Lz} {i j:Nat} {l:Iz} {x:Int} (h:ls[i]?=some l) (g:l[j]?=some x):Qas ls i j=x:=by simp [Qas,h,g]
def Sq (n:Nat) (ls:Lz):Prop:=ls.length=n∧∀ (i:Nat) (l:Iz),ls[i]?=some l→l.length=n
theorem Qlq {n:Nat} {ls:Lz} (h:sqB n ls=true):Sq n ls:=⟨Qsz h,fun _ _ hl=>(Qoy h hl).1⟩
theorem RdT.two {w:World}{A:Oz}{n i j:Nat} {ls:Lz} (h:RdT w A n ls) (hs:Sq n ls) (hi:i<n) (hj:j<n) :
 ∃ b o b2 o2 c2,A=some ⟨b,o,none⟩∧w.cell? ⟨b,o+i,none⟩=some (.slice (some ⟨b2,o2,none⟩) n c2)∧w.cell? ⟨b2,o2+j,none⟩=some (.int .i64 (Qas ls i j)):=by
 obtain ⟨b,o,A1,n1,c1,l,rfl,hl,hc,hr,_,_⟩:=h.at_ hi;have e1:=hs.2 i l hl;have e2:=hr.1;obtain rfl:n1=n:=Oo
 obtain ⟨b2,o2,x,rfl,hx,hc2⟩:=hr.at_ hj;exact ⟨b,o,b2,o2,c1,rfl,hc,by rw [Qna hl hx];exact hc2⟩
theorem step_any (A:Oz)(n c i j:Nat) (ls:Lz) (w:World) (h:RdT w A n ls) (hs:Sq n ls) (hi:i<n) (hj:j<n) :
 Calls prog 150 #[.slice A n c,.int .i64 i,.int .i64 j] w fun e w'=>e=.returned (.int .i64 (Qas ls i j))∧w=w':=by
 obtain ⟨b,o,b2,o2,c2,rfl,h1,h2⟩:=h.two hs hi hj;generalize Qas ls i j=x at *;clear h hs;go_enter func150,ntmps150
 exact Kdp
def Qfv (ls:Lz):Nat→Int→Iz→Int
 | i,acc,[]=>Qio acc (Qas ls i 0)
 | i,acc,k::t=>if k<1∨(ls.length:Int)≤k then INF else Qfv ls k.toNat (Qio acc (Qas ls i k.toNat)) t
def Qer (ls:Lz) (r:Iz):Int:=if r=[] then 0 else Qfv ls 0 0 r
theorem Qgl (A R:Oz)(n c m d:Nat) (ls:Lz) (r:Iz) (w:World) (h:RdT w A n ls) (hs:Sq n ls) (hn0:0<n) (hr:RdI w R m r) (hm:m≤4000000000000000000) :
 Calls prog 94 #[.slice A n c,.slice R m d] w fun e w'=>e=.returned (.int .i64 (Qer ls r))∧w=w':=by
 have hl:=hs.1;have hrl:=hr.1;have HS:=Zh (show ∀ (i j:Nat),i<n→j<n→Calls prog 150 #[.slice A n c,.int .i64 i,.int .i64 j] w fun e w'=>e=.returned (.int .i64 (Qas ls i j))∧w=w' from fun i j hi hj=>step_any A n c i j ls w h hs hi hj);have HA:=Zh Qiz;by_cases h0:m=0;{subst h0;have hr0:=Zh (List.length_eq_zero_iff.1 hrl);(go_enter func94,ntmps94);(go_wp2_with fail);go_ret;exact ⟨Qav (by unfold Qer;rw [if_pos hr0.out]),rfl⟩}
 · have hr0:=Zh (show Qer ls r=Qfv ls 0 0 r by unfold Qer;rw [if_neg (by intro e;rw [e] at hrl;simp at hrl;omega)]);(have HL:=Zh hl;have HR:=Zh hrl;clear hl hrl hs h;have e0:((m:Int) == 0)=false:=by simp;omega);(go_enter func94,ntmps94);(go_wp2_with fail);(go_loopw [5,6,14] (fun a p i W=>w=W∧∃ (k q:Nat) (x:Int),k≤m∧i=.int .i64 k∧a=.int .i64 x∧p=.int .i64 q∧q<n∧Qer ls r=Qfv ls q x (r.drop k)) (fun _ _ i _=>m-(intOf i).toNat));case atStart=>exact ⟨rfl,0,0,0,Nat.zero_le _,rfl,rfl,rfl,hn0,hr0.out⟩
   case round =>
    obtain ⟨rfl,k,q,x,hk,rfl,rfl,rfl,hq,heq⟩:=hrel;have HE:=Zh heq;clear heq;by_cases hlt:k<m
    · obtain ⟨b,o,y,rfl,hy,hc⟩:=hr.at_ hlt;(have hlt':k<r.length:=by rw [HR.o];exact hlt);have hdrop:r.drop k=y::r.drop (k+1):=by{rw [List.drop_eq_getElem_cons hlt'];(congr 1);exact (Zs hy).2};have HD:=Zh hdrop;clear hdrop hlt' hy;(by_cases g1:y<1);{have HF:=Zh (show Qer ls r=INF by rw [HE.o,HD.o];unfold Qfv;rw [if_pos (Or.inl g1)]);exact Kdu}
      · by_cases g2:(n:Int)≤y;{have HF:=Zh (show Qer ls r=INF by rw [HE.o,HD.o];unfold Qfv;rw [if_pos (Or.inr (by rw [HL.o];exact g2))]);exact Kdu}
        · obtain ⟨z,rfl⟩:∃ z:Nat,y=z:=⟨y.toNat,Oo⟩;have hz:z<n:=Oo
          have HF:=Zh (show Qer ls r=Qfv ls z (Qio x (Qas ls q z)) (r.drop (k+1)) by
           rw [HE.o,HD.o]
           conv=>lhs;unfold Qfv
           rw [if_neg (by rw [HL.o];omega)]
           rfl)
          have HS1:=Zh (HS.o q z hq hz);(go_wp2_with fail);(with_reducible refine (HS1.o).mono ?_);rintro e w' ⟨rfl,rfl⟩;(go_wp2_with fail);(with_reducible refine (HA.o _ _ _).mono ?_);rintro e w' ⟨rfl,rfl⟩;(go_wp2_with fail);go_roundw;(case rel=>exact ⟨by trivial,k+1,z,_,Oo,by go_num,rfl,rfl,hz,HF.o⟩);case measure=>simp [intOf];omega
    · obtain rfl:k=m:=by omega
      have HF:=Zh (show Qer ls r=Qio x (Qas ls q 0) by
       rw [HE.o,List.drop_of_length_le (by rw [HR.o];exact Zn _)]
       rfl)
      have HS1:=Zh (show Calls prog 150 #[.slice A n c,.int .i64 q,.int .i64 0] w fun e w'=>e=.returned (.int .i64 (Qas ls q 0))∧w=w' from HS.o q 0 hq hn0);(go_wp2_with fail);(with_reducible refine (HS1.o).mono ?_);rintro e w' ⟨rfl,rfl⟩;(go_wp2_with fail);(with_reducible refine (HA.o _ _ _).mono ?_);rintro e w' ⟨rfl,rfl⟩;exact Kdu
def Qey (st:Pz) (k:Int):Int:=if 1≤k∧k≤st.length then ((st[(k-1).toNat]?).getD (0,0)).2 else 0
def Qdm (st:Pz) (r:Iz):Int:=(r.map (Qey st)).sum
def Qtb (st:Pz):Prop:=∀ p∈st,0≤p.2∧p.2≤2147483648
theorem Qob {st:Pz} (h:Qtb st) (k:Int):0≤Qey st k∧Qey st k≤2147483648:=by unfold Qey;split;{rename_i hk;(have hlt:(k-1).toNat<st.length:=Oo);rw [Zg hlt];exact h _ (List.getElem_mem _)};{omega}
theorem Qsc {st:Pz} (h:Qtb st):∀ r:Iz,0≤Qdm st r∧Qdm st r≤r.length*2147483648
 | []=>by simp [Qdm]
 | k::t=>by have h1:=Qob h k;have h2:=Qsc h t;unfold Qdm at *;simp only [List.map_cons,List.sum_cons,List.length_cons];omega
theorem Qqm {st:Pz} {r:Iz} {k:Nat} {x:Int} (h:r[k]?=some x):Qdm st (r.take (k+1))=Qdm st (r.take k)+Qey st x:=by have hlt:=(Zs h).1;have e:=(Zs h).2;unfold Qdm;rw [Yf hlt,e];simp [List.sum_append]
abbrev Qia (dep cap lim:Int) (A:Oz) (n c:Nat):Value:=.agg #[.int .i64 dep,.int .i64 cap,.int .i64 lim,.slice A n c]
theorem Qny (dep cap lim:Int)(A R:Oz)(n c m d:Nat) (st:Pz) (r:Iz) (w:World) (h:RdP w A n st) (hL:Qtb st) (hr:RdI w R m r) (hn:n≤4000000000000000000) (hm:m≤1000000000) :
 Calls prog 110 #[Qia dep cap lim A n c,.slice R m d] w fun e w'=>e=.returned (.int .i64 (Qdm st r))∧Bw w w':=by
 go_enter func110,ntmps110
 go_wp2_with fail
 (refine Qai ?_;intro w1 hw1);have hb1:Bw w w1:=by rw [hw1];exact Qag
 have hB:Blk w1 w.heap.size 42 #[.int .i64 dep,.int .i64 cap,.int .i64 lim,.slice A n c]:=by rw [hw1];exact Blk.new _ _ _
 have h1:=h.below hb1;have hr1:=hr.below hb1;have HL:=Zh hL;have HN:=Zh h.1;have HM:=Zh hr.1;obtain ⟨b0,b1,b2,b3⟩:=hB.four;clear hw1 h hr hL hB b0 b1 b2;go_loopw [5,10] (fun a i W=>w1=W∧∃ k:Nat,k≤m∧i=.int .i64 k∧a=.int .i64 (Qdm st (r.take k))) (fun _ i _=>m-(intOf i).toNat)
 case atStart=>exact ⟨by trivial,0,Nat.zero_le _,rfl,by simp [Qdm]⟩
 case round =>
  obtain ⟨rfl,k,hk,rfl,rfl⟩:=hrel;by_cases hlt:k<m
  {obtain ⟨b,o,y,rfl,hy,hc⟩:=hr1.at_ hlt;(have hx:=Zh (Qqm (st:=st) hy);have hbd:=Qsc HL.o (r.take k);have hbd2:=Qob HL.o y;have htl:(r.take k).length≤1000000000:=by rw [Yw];omega);clear hy;generalize Qdm st (r.take k)=x at *;by_cases g:1≤y∧y≤n;{obtain ⟨z,rfl⟩:∃ z:Nat,y=z+1:=⟨(y-1).toNat,Oo⟩;(have hz:z<n:=Oo);obtain ⟨b2,o2,x2,y2,rfl,hx2,hc2,hd2⟩:=h1.at_ hz;have hv:Qey st ((z:Int)+1)=y2:=by{exact Kdw};(rw [hv] at hx hbd2;clear hx2 hv;have g1:1≤(z:Int)+1:=g.1;have g2:(z:Int)+1≤n:=g.2;have e1:IntKind.i64.wrap ((z:Int)+1-1)=(z:Int):=by rw [show (z:Int)+1-1=z by omega];exact IntWalk.i64_in _ Oo);have e2:IntKind.i64.wrap (x+y2)=x+y2:=IntWalk.i64_in _ Oo;clear g;(go_wp2_with fail);go_roundw;(case rel=>exact ⟨by trivial,k+1,Oo,by go_num,by rw [hx.out]⟩);case measure=>simp [intOf];omega};{have hv:Qey st y=0:=by{unfold Qey;rw [if_neg (by rw [HN.o];exact g)]};rw [hv] at hx;clear hv;by_cases g1:1≤y;{(have g2:¬y≤(n:Int):=Oo);clear g;exact Kda};{clear g;exact Kda}}};{(obtain rfl:k=m:=Oo);rw [Ye (by rw [HM.o];exact Zn _)];(go_wp2_with fail);go_ret;exact ⟨rfl,hb1⟩}
def Qej (cap lim:Int) (ls:Lz) (st:Pz) (r:Iz):Bool:=decide (Qdm st r≤cap) && (decide (Qer ls r<INF) && decide (Qer ls r≤lim))
def Qra (cap lim:Int) (ls:Lz) (st:Pz):Prop :=
 ∀ (i:Nat) (p:Int×Int),st[i]?=some p→p.2≤cap∧Qas ls 0 (i+1)<1152921504606846976∧Qas ls (i+1) 0<1152921504606846976∧Qio (Qas ls 0 (i+1)) (Qas ls (i+1) 0)<1152921504606846976∧Qio (Qas ls 0 (i+1)) (Qas ls (i+1) 0)≤lim
theorem Qmm {n i j:Nat} {ls:Lz} (hs:sqB n ls=true) (hi:i<n) (hj:j<n):0≤Qas ls i j∧Qas ls i j≤INF:=by exact Kcc
