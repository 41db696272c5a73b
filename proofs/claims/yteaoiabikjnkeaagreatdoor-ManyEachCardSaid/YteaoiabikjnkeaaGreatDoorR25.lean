/- Parts of the proof: AsM, AsT, Pp, AsL, Mq, AsR, MnR, MnL, MnP. -/
import Derived.Test.YteaoiabikjnkeaaGreatDoorR1
import Derived.Test.YteaoiabikjnkeaaGreatDoorR4
import Derived.Test.YteaoiabikjnkeaaGreatDoorR5
import Derived.Test.YteaoiabikjnkeaaGreatDoorR14
import Derived.Test.YteaoiabikjnkeaaGreatDoorR16
import Derived.Test.YteaoiabikjnkeaaGreatDoorR17
import Derived.Test.YteaoiabikjnkeaaGreatDoorR19
import Derived.Test.YteaoiabikjnkeaaGreatDoorR23
import Derived.Test.YteaoiabikjnkeaaGreatDoorR24
import Derived.Maps.OwnSet
import Derived.Maps.OwnOps
import Derived.WideKeyPair
namespace Go.Proofs.YteaoiabikjnkeaaGreatDoor
open Go.RowKit Go.Proofs.Tryz
structure NxtP (N:Qap) (ls:List (List Int)) (av:List Int) (a:Nat) (os cs:List Int):Prop where
 len:cs.length=os.length
 to_:∀ (k:Nat) (o v:Int),os[k]?=some o→cs[k]?=some v→∃ (b:Nat) (y:Tri),o=(b:Int)∧N.ar[b]?=some y∧0≤v∧v≤1152921504606846976∧(v≠1152921504606846976→y.2.2≠1152921504606846976→HSt N ls av a b (v+y.2.2))
 all:∀ (b:Nat) (d:Int),HSt N ls av a b d→∃ (k:Nat) (v:Int) (y:Tri),os[k]?=some (b:Int)∧cs[k]?=some v∧N.ar[b]?=some y∧v≠1152921504606846976∧y.2.2≠1152921504606846976∧d=v+y.2.2
section
variable {N:Qap} {ls:List (List Int)} {av:List Int} {s a:Nat}
theorem Qye (hok:Qaz N){x:Tri} (hx:N.ar[a]?=some x) (h0:Qhu ls (toV N a) av=0):NxtP N ls av a (idx (·.1) N.ar x.2.1) ((idx (·.1) N.ar x.2.1).map (fun b=>Qau N a b.toNat)):=by
 refine ⟨by simp,fun k o v ho hv=>?_,fun b d hd=>?_⟩
 · obtain ⟨b,y,rfl,hy,hf⟩:=Qey.1 (Zm ho)
   rw [List.getElem?_map,ho] at hv;have hv':Qau N a b=v:=by simpa using hv
   subst hv';have hb:=Qdt hok a b;exact ⟨b,y,rfl,hy,by omega,by omega,fun h1 h2=>.inl ⟨h0,y,hy,h1,h2,rfl⟩⟩
 · rcases hd with ⟨_,hd⟩|⟨j,_,_,_,_,hj,_⟩
   · obtain ⟨x',y,hx',hy,e,h1,h2,h3⟩:=hd.ends
     rw [hx] at hx'
     cases hx'
     obtain ⟨k,hk⟩:=List.getElem?_of_mem (Qey.2 ⟨b,y,rfl,hy,e.symm⟩:(b:Int)∈idx (·.1) N.ar x.2.1);exact ⟨k,Qau N a b,y,hk,by rw [List.getElem?_map,hk];simp,hy,h1,h2,h3⟩
   · omega
theorem Qvt (hok:Qaz N){cl:List Int}(hA:Qee N ls cl){j i c:Nat}{l:List Int}{x:Qao}{y:Tri} (hj:Qhu ls (toV N a) av=j+1) (hl:ls[j]?=some l) (hy:N.ar[a]?=some y) (hg:Qad l y.1≠Qad l y.2.1)
 (hc:Qad l y.2.1=(c:Int)) (hx:(Qae N.ar l)[c]?=some x) (hi:x.1[i]?=some (a:Int)):NxtP N ls av a x.2 ((cl.drop (Qfq (Qaf N.ar ls) (Qae N.ar l) j c x i 0)).take x.2.length):=by
 have hat:∀ (k:Nat) (o:Int),x.2[k]?=some o→∃ (b:Nat) (z:Tri) (v:Int),o=(b:Int)∧N.ar[b]?=some z∧Qad l z.1=(c:Int)∧Qad l z.2.1≠(c:Int)∧((cl.drop (Qfq (Qaf N.ar ls) (Qae N.ar l) j c x i 0)).take x.2.length)[k]?=some v∧Qgn N (Qel l c) a b v:=by
  intro k o ho;have hk:=(Zs ho).1;have hm:=Zm ho;obtain ⟨b,rfl⟩:=Qdi hx ho;obtain ⟨z,hz,h1,h2⟩:=(Qcc hx).1 hm;obtain ⟨v,hv,hv2⟩:=hA.at_ (show Qgf N ls (Qfq (Qaf N.ar ls) (Qae N.ar l) j c x i k) j l c x i k a b from ⟨hl,hx,hi,ho,rfl⟩)
  refine ⟨b,z,v,rfl,hz,h1,h2,?_,hv2⟩;rw [List.getElem?_take_of_lt hk,List.getElem?_drop];rw [←hv]
  congr 1
  unfold Qfq;omega
 have hlen:((cl.drop (Qfq (Qaf N.ar ls) (Qae N.ar l) j c x i 0)).take x.2.length).length=x.2.length:=by
  rw [List.length_take];refine Nat.min_eq_left ?_
  rcases Nat.eq_zero_or_pos x.2.length with h0|h0
  · omega
  · obtain ⟨o,ho⟩:∃ o,x.2[x.2.length-1]?=some o:=⟨_,Zg (by omega)⟩
    obtain ⟨_,_,v,_,_,_,_,hv,_⟩:=hat _ _ ho;rw [List.getElem?_take_of_lt (by omega)] at hv;have:=(Zs hv).1;omega
 refine ⟨hlen,fun k o v ho hv=>?_,fun b d hd=>?_⟩
 · obtain ⟨b,z,v',rfl,hz,h1,h2,h3,h4⟩:=hat k o ho
   rw [hv] at h3
   cases h3
   have hb:=h4.bd hok;refine ⟨b,z,rfl,hz,by omega,by omega,fun g1 g2=>.inr ⟨j,l,y,z,v,hj,hl,hy,hz,hg,by rw [h1,hc],by rw [hc];exact h2,g2,by rw [hc];exact h4,g1,rfl⟩⟩
 · rcases hd with ⟨h0,_⟩|⟨j',l',y',z,v,hj',hl',hy',hz,_,h5,h6,h7,h8,h9,rfl⟩
   · omega
   · rw [hj] at hj'
     obtain rfl:j=j':=by omega
     rw [hl] at hl'
     cases hl'
     rw [hy] at hy'
     cases hy'
     rw [hc] at h5 h6 h8;obtain ⟨k,hk⟩:=List.getElem?_of_mem ((Qcc hx).2 ⟨z,hz,h5,h6⟩);obtain ⟨b',z',v',e,hz',_,_,h3,h4⟩:=hat k _ hk;obtain rfl:b=b':=by omega
     rw [hz] at hz'
     cases hz'
     obtain rfl:=Lst.uniq h8 h4;exact ⟨k,v,z,hk,h3,hz,h9,h7,rfl⟩
inductive Via (N:Qap) (ls:List (List Int)) (av:List Int) (s:Nat) (bf:List Int) (dn:Nat→Option Int):Nat→Int→List (Nat×Nat)→Prop
 | start:Via N ls av s bf dn s 0 []
 | step {p q:Nat} {c d:Int} {hs:List (Nat×Nat)}:Via N ls av s bf dn p c hs→dn p=some c→q≠s→bf[q]?=some (p:Int)→HSt N ls av p q d→Via N ls av s bf dn q (c+d) (hs ++[(p,q)])
inductive HopP (N:Qap) (ls:List (List Int)) (av:List Int) (s:Nat):Nat→Int→List (Nat×Nat)→Prop
 | start:HopP N ls av s s 0 []
 | step {p q:Nat} {c d:Int} {hs:List (Nat×Nat)}:HopP N ls av s p c hs→HSt N ls av p q d→HopP N ls av s q (c+d) (hs ++[(p,q)])
variable {bf:List Int} {dn dn':Nat→Option Int} {q:Nat} {c:Int} {hs:List (Nat×Nat)}
noncomputable def viaLen (N:Qap) (ls:List (List Int)) (av:List Int) (s:Nat) (bf:List Int) (dn:Nat→Option Int) (q:Nat):Nat:=by
 classical exact if h:∃ c hs,Via N ls av s bf dn q c hs then (Classical.choose (Classical.choose_spec h)).length else 0
structure ViaI (N:Qap) (ls:List (List Int)) (av:List Int) (s:Nat) (bf:List Int) (dn hp:Nat→Option Int) (k:Nat):Prop where
 done:∀ q c,dn q=some c→∃ hs,Via N ls av s bf dn q c hs∧hs.length+1≤k
 wait:∀ q c,hp q=some c→∃ hs,Via N ls av s bf dn q c hs∧hs.length≤k
 st:dn s≠none∨(∀ q,dn q=none)∧∀ q,q≠s→hp q=none
theorem ViaI.init {hp:Nat→Option Int}(h:∀ q,hp q=if q=s then some 0 else none):ViaI N ls av s bf (fun _=>none) hp 0:=by
 refine ⟨fun q c e=>(by cases e),fun q c e=>?_,.inr ⟨fun _=>rfl,fun q hq=>by rw [h q,if_neg hq]⟩⟩
 rw [h q] at e
 split at e
 · rename_i h1
   subst h1
   cases e
   exact ⟨[],.start,Zn _⟩
 · cases e
end
def GoneQ (N:Qap)(os cs:List Int)(i:Nat):Nat→Int→Prop:=fun r d=>∃ (j:Nat) (v:Int) (y:Tri),j<i∧os[j]?=some (r:Int)∧cs[j]?=some v∧N.ar[r]?=some y∧v≠1152921504606846976∧y.2.2≠1152921504606846976∧d=v+y.2.2
structure RunI (N:Qap) (ls:List (List Int)) (av:List Int) (s t na:Nat) (dnf hp:Nat→Option Int) (dn:List Bool) (bf:List Int):Prop where
 dij:Dij (HSt N ls av) s dnf hp
 via:ViaI N ls av s bf dnf hp (dn.countP (fun b=>b))
 fl:∀ q,q<na→(dn.getD q false=true↔dnf q≠none)
 bd:∀ q e,hp q=some e→e≤MB+70379481595904
 ld:dn.length=na
 lb:bf.length=na
 nt:dnf t=none
structure RunJ (N:Qap) (ls:List (List Int)) (av:List Int) (s t na p:Nat) (c:Int) (os cs:List Int) (i:Nat) (dnf hp:Nat→Option Int) (dn:List Bool) (bf:List Int):Prop where
 dij:Qoe (HSt N ls av) s dnf hp p c (GoneQ N os cs i)
 via:ViaI N ls av s bf dnf hp (dn.countP (fun b=>b))
 fl:∀ q,q<na→(dn.getD q false=true↔dnf q≠none)
 bd:∀ q e,hp q=some e→e≤MB+70379481595904
 ld:dn.length=na
 lb:bf.length=na
 nt:dnf t=none
 c0:0≤c∧c≤MB
section
variable {N:Qap} {ls:List (List Int)} {av:List Int} {s t na p:Nat} {c:Int} {os cs:List Int} {i:Nat} {dnf hp:Nat→Option Int} {dn:List Bool} {bf:List Int}
theorem Qoe.conv {St:Qbx}{G G':Nat→Int→Prop}(h:Qoe St s dnf hp p c G)(hg:∀ r d,G' r d→G r d):Qoe St s dnf hp p c G' :=
 ⟨h.dr,h.dm,h.hr,h.off,fun q e r d h1 h2=>(h.on q e r d h1 h2).imp (fun h3=>⟨h3.1,fun h4=>h3.2 (hg r d h4)⟩) id,h.st,h.at_⟩
theorem HSt.pos (hok:Qaz N)(a b:Nat)(d:Int)(h:HSt N ls av a b d):0≤d:=(h.bd hok).1
theorem RunI.init:RunI N ls av s t na (fun _=>none) (Qiu (fun _=>none) s 0) (List.replicate na false) (List.replicate na 0):=by
 have h1:∀ q,Qiu (fun _=>none) s 0 q=if q=s then some 0 else none:=fun q=>by
  unfold Qiu
  by_cases e:q=s <;> simp [e]
 refine ⟨⟨fun p c e=>(by cases e),fun p c e=>(by cases e),fun p c e=>?_,fun p c e=>(by cases e),fun p c q d e=>(by cases e),.inr ⟨0,by rw [h1,if_pos rfl],Int.le_refl _⟩⟩,?_,fun q hq=>?_,fun q e h=>?_,by simp,by simp,rfl⟩
 · rw [h1] at e
   split at e
   · rename_i h2
     subst h2
     cases e
     exact .start
   · cases e
 · have:(List.replicate na false).countP (fun b=>b)=0:=by simp
   rw [this];exact ViaI.init h1
 · rw [getD_rep]
   simp
 · rw [h1] at h
   split at h
   · cases h;unfold MB;omega
   · cases h
theorem RunJ.skip (h:RunJ N ls av s t na p c os cs i dnf hp dn bf){b:Nat}{v:Int}{y:Tri} (hb:os[i]?=some (b:Int)) (hv:cs[i]?=some v) (hy:N.ar[b]?=some y) (hno:v=1152921504606846976∨y.2.2=1152921504606846976):RunJ N ls av s t na p c os cs (i+1) dnf hp dn bf :=
 ⟨h.dij.conv (fun r d ⟨j,v',y',hj,h1,h2,h3,h4,h5,h6⟩=>by
  by_cases e:j=i
  · subst e
    rw [hb] at h1;have e1:=Int.ofNat.inj (Option.some.inj h1);subst e1;rw [hv] at h2
    cases h2
    rw [hy] at h3
    cases h3
    rcases hno with g|g
    · exact absurd g h4
    · exact absurd g h5
  · exact ⟨j,v',y',by omega,h1,h2,h3,h4,h5,h6⟩),h.via,h.fl,h.bd,h.ld,h.lb,h.nt,h.c0⟩
theorem Qmc {b:Nat}{v:Int}{y:Tri} (hb:os[i]?=some (b:Int)) (hv:cs[i]?=some v) (hy:N.ar[b]?=some y) (r:Nat) (d:Int) (h:GoneQ N os cs (i+1) r d):GoneQ N os cs i r d∨(r=b∧d=v+y.2.2):=by
 obtain ⟨j,v',y',hj,h1,h2,h3,h4,h5,h6⟩:=h
 by_cases e:j=i
 · subst e
   rw [hb] at h1;have e1:=Int.ofNat.inj (Option.some.inj h1);subst e1;rw [hv] at h2
   cases h2
   rw [hy] at h3
   cases h3
   exact .inr ⟨rfl,h6⟩
 · exact .inl ⟨j,v',y',by omega,h1,h2,h3,h4,h5,h6⟩
end
attribute [local go_sem ↓] Go.wp_at_zero Go.wp_at_succ
set_option maxHeartbeats 1000000 in
theorem Qvy (o:Nat)(ar:List Tri) (ls:List (List Int)) (w:World) (h:Qgy w o ar ls) (hL:ls.length≤1000000) (hc:∀ l∈ls,l.length≤1000000) :
 Calls prog 38 #[.pointer (some ⟨o,0,none⟩)] w fun e w'=>∃ Q' cq',e=.returned (.agg #[.slice Q' ls.length cq'])∧RdT (msk w' (fun b=>w.heap.size≤b∧b<w'.heap.size)) Q' ls.length ls∧Below w.heap.size w w':=by
 obtain ⟨Q,F,T,G,S,L,m,cq,cf,ct,cg,cs,h⟩:=h;have h0:=h.n0;have hl:ls.length=L:=h.part.1;rw [hl] at hL ⊢;have HT:=Zh h.part;have HC:=Zh hc;have hol:=Qaj h0;simp only at hol;clear h hc hl
 go_enter func38,ntmps38
 go_wp2_with fail
 (refine Qac ?_;intro w1 hw1)
 have hb1:Below w.heap.size w w1:=by rw [hw1];exact Qah
 have hR1:Blk w1 w.heap.size 87 #[.slice none 0 0]:=by rw [hw1];exact Qbg
 have hz1:w.heap.size+1≤w1.heap.size:=by rw [hw1];simp
 clear hw1;with_reducible refine (Qsj Q L cq ls _ (HT.out.below hb1) hL HC.out).mono ?_
 rintro e w2 ⟨Q',cq',rfl,hrw,_,_,hb2⟩;have hR2:=hR1.below hb2 hR1.lt;have r0:=hR2.cell 0;simp only [List.getElem?_toArray,List.getElem?_cons_zero] at r0;have f0:=hR2.frozen 0;have hb2':=Zb hb1 hb2
 have HW:=Zh (show RdT (msk (w2.setCell ⟨w.heap.size,0,none⟩ (.slice Q' L cq')) (fun b=>w.heap.size≤b∧b<(w2.setCell ⟨w.heap.size,0,none⟩ (.slice Q' L cq')).heap.size)) Q' L ls from
  hrw.le ((Qbf.set w2 w.heap.size 0 (.slice Q' L cq') (by omega)).msk.trans (Qbe (fun b hb=>⟨by omega,by have:=hb.2;simpa [World.setCell] using this⟩))))
 have hbe:Below w.heap.size w (w2.setCell ⟨w.heap.size,0,none⟩ (.slice Q' L cq')):=hb2'.setCell (Zn _) _;clear hrw hb2 hR1 hb1 h0
 go_wp2_with fail
 refine bodyPost_ret (v:=.agg #[.slice Q' L cq']) (by simp [results,results38,go_sem,r0]) rfl ?_;exact ⟨_,_,rfl,HW.out,hbe⟩
def inR (n:Nat)(v:Int):Prop:=0≤v∧v<(n:Int)
noncomputable def lvI (n:Nat) (ls:List (List Int)) (v a b:Int):Int:=by classical exact if inR n v∧inR n a∧inR n b then (Qhu ls v [a,b]:Int) else 0
theorem lvTo_yes {ls:List (List Int)} {v:Int} {av:List Int} {j:Nat} (h:Qfb ls j v av):Qqo ls v av (j+1)=j+1:=by unfold Qqo;rw [if_pos h]
theorem lvTo_no {ls:List (List Int)} {v:Int} {av:List Int} {j:Nat} (h:¬Qfb ls j v av):Qqo ls v av (j+1)=Qqo ls v av j:=by
 rw [show Qqo ls v av (j+1)=(by classical exact if Qfb ls j v av then j+1 else Qqo ls v av j) from rfl]
 rw [if_neg h]
end Go.Proofs.YteaoiabikjnkeaaGreatDoor
namespace Go.Proofs.YteaoiabikjnkeaaGreatDoor
open Go.RowKit Go.Maps Go.WideMaps Go.Proofs.Tryz
theorem pr_arr:ArrKey prog 298 3 2:=⟨underlying298,by kernel_rfl,by kernel_rfl,by kernel_rfl⟩
theorem Qna:Keyed prog 298:=Keyed.of_law pr_arr.law
def kq (x y:Nat):Lit:=.string (keyBytes [.int .i64 (x:Int),.int .i64 (y:Int)])
theorem pr_size:∃ m,Tryz.prog.types.size=m+1:=⟨Tryz.prog.types.size-1,by kernel_rfl⟩
theorem Qsz {x y:Nat}(hx:x≤1000000000000)(hy:y≤1000000000000):keyOf prog 298 (.agg #[.int .i64 (x:Int),.int .i64 (y:Int)])=some (kq x y):=keyOf_pair pr_arr underlying3 pr_size (WalkArith.wf_i64 (by omega)) (WalkArith.wf_i64 (by omega))
theorem kq_ne {x y x' y':Nat}(hx:x≤1000000000000)(hy:y≤1000000000000)(hx':x'≤1000000000000)(hy':y'≤1000000000000) (h:¬(x=x'∧y=y')):kq x y≠kq x' y':=fun e=>by
 have h1:=Qsz hx hy;have h2:=Qsz hx' hy';rw [←e] at h2;have h3:=Qna.inj h1 h2
 injection h3 with h3
 injection h3 with h3
 injection h3 with a1 a2
 injection a2 with a2 _
 injection a1 with _ a1
 injection a2 with _ a2
 exact h ⟨by omega,by omega⟩
def RV:Value→Option (DataW Value×List MemPlace):=fun v=>some (.held v,[])
def MpQ (W:World)(b n:Nat)(f:Nat→Nat→Option Value):Prop :=
 ∃ D:DataW Value,W.ownsMap prog 298 RV b n D∧IsMap D∧∀ x y:Nat,x≤1000000000000→y≤1000000000000→Maps.has D (kq x y)=(f x y).isSome∧∀ v,f x y=some v→∀ z,D.atKey (kq x y) z=.held v
theorem MpQ.new (w:World):MpQ (w.alloc (.map #[] 0)) w.heap.size 0 (fun _ _=>none) :=
 ⟨.map [],World.ownsMap_made _ _ _ _,isMap_empty,fun x y _ _=>⟨rfl,fun v h=>by cases h⟩⟩
theorem MpQ.lt {W:World}{b n:Nat}{f:Nat→Nat→Option Value}(h:MpQ W b n f):b<W.heap.size:=by
 obtain ⟨D,h1,_⟩:=h;exact h1.lt
theorem MpQ.grown {W W':World}{b n:Nat}{f:Nat→Nat→Option Value}{r:Option Nat}(h:MpQ W b n f)(hg:W.grownBy W' r)(hr:r≠some b):MpQ W' b n f:=by
 obtain ⟨D,h1,h2⟩:=h;exact ⟨D,h1.kept hg (fun e=>hr e.symm),h2⟩
theorem MpQ.below {W W':World}{b n:Nat}{f:Nat→Nat→Option Value}(h:MpQ W b n f)(hb:Below W.heap.size W W'):MpQ W' b n f:=h.grown ⟨hb.os,hb.tape,hb.output,hb.size,fun k hk _=>hb.block k hk⟩ (r:=none) (by simp)
theorem MpQ.set {W:World}{b n g i:Nat}{f:Nat→Nat→Option Value}(h:MpQ W b n f)(hg:g≠b)(v:Value):MpQ (W.setCell ⟨g,i,none⟩ v) b n f:=h.grown (Qaa _ _ _ _) (fun e=>hg (by injection e))
theorem Qvi (w:World):(zeroValue 164).run prog w=.ok (.agg #[.slice none 0 0,.slice none 0 0]) w:=by kernel_rfl
section
variable {w:World} {ops:Array Oper} {rest:List Oper} {o:Oper} {a:Act} {Q:Exit→Act→World→Prop} {b n:Nat} {f:Nat→Nat→Option Value}
theorem Qvw (hg:o.guard=none)(m x:Operand)(hop:o.op=Op.lookup 199 m x true)(i k:Nat) (hm:a.eval m=.map (some b)) (h:MpQ w b n f) (hx:a.eval x=.agg #[.int .i64 i,.int .i64 k]) (hi:i≤1000000000000) (hk:k≤1000000000000)
 (hK:wpList prog ops Q rest (a.put o.dst (.tuple #[(f i k).getD (.agg #[.slice none 0 0,.slice none 0 0]),.bool (f i k).isSome])) w):wpList prog ops Q (o::rest) a w:=by
 obtain ⟨D,h1,h2,h3⟩:=h;refine wpList_lookup_own_ok w hg m x 199 hop 298 164 Qna underlying199 RV (Qvi w) _ [] rfl b n D hm h1 _ _ hx (Qsz hi hk) (fun v ps hv=>?_);obtain ⟨g1,g2⟩:=h3 i k hi hk;rw [g1]
 have:v=(f i k).getD (.agg #[.slice none 0 0,.slice none 0 0]):=by
  have hv':DataW.held v=D.atKey (kq i k) (.held (.agg #[.slice none 0 0,.slice none 0 0])):=congrArg Prod.fst (Option.some.inj hv)
  cases hf:f i k with
  | none =>
   rw [hf] at g1;rw [atKey_of_not_has g1] at hv'
   injection hv'
  | some u =>
   rw [g2 u hf] at hv'
   injection hv'
 subst this;exact hK
end
end Go.Proofs.YteaoiabikjnkeaaGreatDoor
namespace Go.Proofs.YteaoiabikjnkeaaGreatDoor
open Go.RowKit Go.Proofs.Tryz
attribute [local go_sem ↓] Go.wp_at_zero Go.wp_at_succ
section
variable {V W:World} {qb g o:Nat} {N:Qap} {ls:List (List Int)} {s t:Nat} {CA:Option Addr} {NC cC:Nat} {cl:List Int} {Q:Option Addr} {L cq mb bb na:Nat}
end
structure MR (V:World) (qb g o:Nat) (N:Qap) (ls:List (List Int)) (TA:Option Addr) (nt ct:Nat) (tl:List Int) (CA:Option Addr) (NC cC:Nat) (cl:List Int) (Q:Option Addr) (L cq mb:Nat):Prop where
 gr:Qfv V g N
 ov:Qgy V o N.ar ls
 part:RdT V Q L ls
 costs:RdI V CA NC cl
 ts:RdI V TA nt tl
 q0:V.cell? ⟨qb,0,none⟩=some (.pointer (some ⟨g,0,none⟩))
 q1:V.cell? ⟨qb,1,none⟩=some (.pointer (some ⟨o,0,none⟩))
 q2:V.cell? ⟨qb,2,none⟩=some (.slice CA NC cC)
 q3:V.cell? ⟨qb,3,none⟩=some (.slice TA nt ct)
 q5:V.cell? ⟨qb,4,none⟩=some (.slice Q L cq)
 q6:V.cell? ⟨qb,5,none⟩=some (.map (some mb))
section
variable {V W:World} {qb g o:Nat} {N:Qap} {ls:List (List Int)} {TA:Option Addr} {nt ct:Nat} {tl:List Int} {CA:Option Addr} {NC cC:Nat} {cl:List Int} {Q:Option Addr} {L cq mb:Nat}
theorem MR.le (h:MR V qb g o N ls TA nt ct tl CA NC cC cl Q L cq mb)(hl:Le V W):MR W qb g o N ls TA nt ct tl CA NC cC cl Q L cq mb :=
 ⟨h.gr.le hl,h.ov.le hl,h.part.le hl,h.costs.le hl,h.ts.le hl,hl _ _ h.q0,hl _ _ h.q1,hl _ _ h.q2,hl _ _ h.q3,hl _ _ h.q5,hl _ _ h.q6⟩
theorem MR.below (h:MR V qb g o N ls TA nt ct tl CA NC cC cl Q L cq mb)(hb:Below V.heap.size V W):MR W qb g o N ls TA nt ct tl CA NC cC cl Q L cq mb:=h.le (Le.below hb)
end
end Go.Proofs.YteaoiabikjnkeaaGreatDoor
namespace Go.Proofs.YteaoiabikjnkeaaGreatDoor
open Go.RowKit Go.Maps Go.Proofs.Tryz
attribute [local go_sem ↓] Go.wp_at_zero Go.wp_at_succ
set_option maxRecDepth 20000 in
theorem MpI.look {W:World}{b n:Nat}{f:Nat→Option Nat}(h:MpI W b n f)(k:Nat)(hk:k≤1000000000000):(Instr.lookup 264 (.map (some b)) (.int .i64 (k:Int)) false).run prog W=.ok (.int .i64 (((f k).getD 0:Nat):Int)) W:=by
 obtain ⟨D,h1,h2,h3⟩:=h;obtain ⟨c,hrun,hat,_⟩:=h1.lookup_int Qgu underlying264 underlying3 (Qnd W) (Qic hk);obtain ⟨g1,g2⟩:=h3 k hk
 have:c=(((f k).getD 0:Nat):Int):=by
  cases hf:f k with
  | none =>
   rw [hf] at g1;rw [atKey_of_not_has g1] at hat
   injection hat with hc
   injection hc with _ hc
   exact hc.symm
  | some v =>
   rw [g2 v hf] at hat
   injection hat with hc
   injection hc with _ hc
   exact hc.symm
 rw [hrun,this]
structure PlnL (W:World) (pb:Nat) (l:List Int) (av:List Int) (i:Nat) (b n:Nat) (f:Nat→Option Nat):Prop where
 c:W.cell? ⟨pb,i,none⟩=some (.map (some b))
 m:MpI W b n f
 iff:∀ c:Nat,(f c).getD 0=0↔∀ x∈av,Qad l x≠(c:Int)
def PlnR (W:World)(pb:Nat) (ls:List (List Int)) (av:List Int):Prop:=∀ i l,ls[i]?=some l→∃ b n f,PlnL W pb l av i b n f
theorem PlnR.below {W W':World}{pb:Nat} {ls:List (List Int)} {av:List Int} (h:PlnR W pb ls av) (hb:Below W.heap.size W W'):PlnR W' pb ls av:=fun i l hl=>by
 obtain ⟨b,n,f,h1,h2,h3⟩:=h i l hl;exact ⟨b,n,f,Zc hb (Zn _) h1,h2.below hb,h3⟩
set_option maxRecDepth 20000 in
set_option maxHeartbeats 2000000 in
theorem Qxz (w:World)(qb g o:Nat)(N:Qap) (ls:List (List Int)) (TA:Option Addr) (nt ct:Nat) (tl:List Int) (CA:Option Addr) (NC cC:Nat) (cl:List Int) (Q:Option Addr) (L cq mb pb:Nat) (av:List Int) (v:Nat) (h:MR w qb g o N ls TA nt ct tl CA NC cC cl Q L cq mb) (hP:Qbn N.vs.length ls) (hp:PlnR w pb ls av) (hv:v<N.vs.length) (hvn:N.vs.length≤1000000) :
 Calls prog 146 #[.pointer (some ⟨qb,0,none⟩),.slice (some ⟨pb,0,none⟩) L L,.int .i64 v] w fun e w'=>e=.returned (.int .i64 ((Qhu ls (v:Int) av:Nat):Int))∧Below w.heap.size w w':=by
 have HQ:=Zh (fun V (hV:Below w.heap.size w V)=>h.below hV);have HP:=Zh hP;have HPL:=Zh (fun V (hV:Below w.heap.size w V)=>hp.below hV);have hL6:L≤6:=by rw [←h.part.1];exact hP.l6
 have HLL:=Zh h.part.1;have q5:=h.q5;obtain ⟨nv,hnv⟩:∃ nv,nv=N.vs.length:=⟨_,rfl⟩;have HNV:=Zh hnv;rw [←hnv] at hv hvn;clear h hP hp hnv
 go_enter func146,ntmps146
 go_wp2_with fail
 clear q5
 go_loopw [7] (fun q W=>∃ j:Nat,j≤L∧q=.int .i64 j∧Below w.heap.size w W∧Qhu ls (v:Int) av=Qqo ls (v:Int) av j) (fun q _=>(intOf q).toNat)
 case atStart=>exact ⟨L,Zn _,rfl,Zr _ _,by unfold Qhu;rw [HLL.out]⟩
 case round =>
  obtain ⟨J,hj,rfl,hb,hlv⟩:=hrel;have HB:=Zh hb;have HLV:=Zh hlv;clear hlv
  by_cases h0:J=0
  · subst h0
    have e0:¬((1:Int)≤((0:Nat):Int)):=by omega
    have HZ:=Zh (show Qhu ls (v:Int) av=0 by rw [HLV.out];rfl)
    clear hb
    go_wp2_with fail
    go_ret
    rw [HZ.out];exact ⟨rfl,HB.out⟩
  · obtain ⟨j,hJ⟩:∃ j,J=j+1:=⟨J-1,by omega⟩
    have e0:(1:Int)≤(J:Int):=by omega
    have HJ:=Zh hJ;have q5:=(HQ.out wr hb).q5;obtain ⟨qb2,qo,A1,n1,c1,l,rfl,hl,k0,k1,_,_⟩:=(HQ.out wr hb).part.at_ (i:=j) (by omega);have hlo:=HP.out.lvl l (Zm hl);obtain rfl:nv=n1:=by rw [←k1.1,HNV.out];exact hlo.len.symm
    obtain ⟨lb,lo,z,rfl,hz,cv⟩:=k1.at_ (i:=v) hv;obtain ⟨mi,ni,fi,hpl⟩:=HPL.out wr hb j l hl;obtain ⟨zn,hzn,hzm,hzz⟩:=Qda hlo (by rw [←HNV.out];exact hv);obtain rfl:z=(zn:Int):=by rw [←hzn];exact (Qbt hz).symm
    have hzb:zn≤1000000000000:=by
     have:=Qby (l:=l) (n:=(N.vs.length:Int)) (fun x hx=>hlo.hi x hx) (by omega);have:=HNV.out;omega
    have HAP:=Zh (show Qfb ls j (v:Int) av↔(fi zn).getD 0=0 from by
     rw [hpl.iff zn]
     constructor
     · rintro ⟨l',hl',g⟩
       rw [hl] at hl'
       cases hl'
       intro x hx e;exact g x hx (by rw [hzn,e])
     · intro g
       exact ⟨l,hl,fun x hx e=>g x hx (by rw [←e,hzn])⟩)
    have e1:(J:Int)-1=(j:Int):=by omega
    have e2:(0:Int)≤(j:Int):=by omega
    have e3:(j:Int)<(L:Int):=by omega
    have e4:(0:Int)≤(v:Int):=by omega
    have e5:(v:Int)<(nv:Int):=by omega
    have e6:¬((v:Int)<0):=by omega
    have e7:¬((nv:Int)≤(v:Int)):=by omega
    have wl:IntKind.i64.wrap (j:Int)=(j:Int):=IntWalk.i64_in _ (by omega);have hlk:=fun V (hV:Below wr.heap.size wr V)=>(hpl.m.below hV).look zn hzb
    have HSX:=Zh (show ∀ V,V=wr.drew→V.cell? ⟨pb,j,none⟩=some (.map (some mi))∧V.cell? ⟨lb,lo+v,none⟩=some (.int .i64 (zn:Int))∧(Instr.lookup 264 (.map (some mi)) (.int .i64 (zn:Int)) false).run prog V=.ok (.int .i64 (((fi zn).getD 0:Nat):Int)) V from fun V hV=>by
     subst hV;exact ⟨hpl.c,cv,hlk _ (Zr _ _).drew⟩)
    obtain ⟨u,hu⟩:∃ u,u=(fi zn).getD 0:=⟨_,rfl⟩;rw [←hu] at HSX HAP;have HL:=Zh hl;clear hl hlo k1 hb hJ h0 hpl hz hzn hzm hzz hzb hlk hu cv
    go_wp2_with fail
    refine wp_region_held_drew (S:=fun V=>V=wr.drew) (by kernel_rfl) rfl (fun _=>?_);refine tz 0 34 ?_;refine tz 1 35 ?_;refine tz 2 36 ?_;refine tz 3 37 ?_;refine tz 4 38 ?_;refine tz 5 39 ?_;refine tz 6 40 ?_;refine tz 7 41 ?_;refine tz 8 42 ?_;refine tz 9 43 ?_;refine tz 10 44 ?_;refine Zd ?_
    by_cases hu0:u=0
    · have e8:((u:Int) == 0)=true:=by simp [hu0]
      have HZ:=Zh (show Qhu ls (v:Int) av=J by rw [HLV.out,HJ.out];exact lvTo_yes (HAP.out.2 hu0))
      clear HSX hu0
      go_wp2_with fail
      go_ret
      rw [HZ.out];exact ⟨rfl,HB.out.drew⟩
    · have e8:((u:Int) == 0)=false:=by simp;exact hu0
      have HZ:=Zh (show Qhu ls (v:Int) av=Qqo ls (v:Int) av j by rw [HLV.out,HJ.out];exact lvTo_no (fun h=>hu0 (HAP.out.1 h)))
      clear HSX hu0
      go_wp2_with fail
      go_roundw
      case rel=>exact ⟨j,by omega,by go_num,HB.out.drew,HZ.out⟩
      case measure=>(have:=HJ.out;simp [intOf];omega)
end Go.Proofs.YteaoiabikjnkeaaGreatDoor
namespace Go.Proofs.YteaoiabikjnkeaaGreatDoor
open Go.RowKit Go.Maps Go.Proofs.Tryz
attribute [local go_sem ↓] Go.wp_at_zero Go.wp_at_succ
theorem infoMI:(Tryz.prog.info? 264).map (fun i=>(i.zero,i.size,i.bytes))=some (some (.map none),1,8):=by kernel_rfl
theorem Qud (n:Nat)(hn:n≤1000000)(W:World):(Instr.makeSlice 265 (.int .i64 (n:Int)) (.int .i64 (n:Int))).run prog W=.ok (.slice (some ⟨W.heap.size,0,none⟩) n n) (W.alloc (.cells (Qbo (.map none) n) 264)) :=
 Qdk (P:=prog) 265 264 (.map none) 8 infoMI underlying265 rfl n (by omega) (by omega) .i64 .i64 W
theorem Qio {w:World}{o:Oper}{a:Act}{K:Act→World→Prop}{Q:Exit→Act→World→Prop}{b n:Nat}{f:Nat→Option Nat}(m x v:Operand)(hop:o.op=Op.mapUpdate 264 m x v)(k u:Nat) (hm:a.eval m=.map (some b)) (h:MpI w b n f) (hn:n≤1000000000) (hx:a.eval x=.int .i64 (k:Int)) (hv:a.eval v=.int .i64 (u:Int)) (hk:k≤1000000000000) (hu:u≤1000000000000)
 (hK:∀ w',MpI w' b (n+1) (fun q=>if q=k then some u else f q)→w.grownBy w' (some b)→K (a.put o.dst undef) w'):Oper.wp prog o a w K Q:=by
 obtain ⟨D,h1,h2,h3⟩:=h;obtain ⟨w',hrun,g1,g2⟩:=h1.update Qgu underlying264 (by unfold maxLen;omega) (Qic hk) (show plainElem prog 3 (.int .i64 (u:Int))=some ((.lit (.int .i64 (u:Int)):DataW Unit),[]) from plainElem_int underlying3 (WalkArith.wf_i64 (by omega)))
 have hf:=hK w' ⟨_,g1,h2.put _ _,fun q hq=>by
  have hkl:WideAt.IsKeyLit (Lit.int .i64 (k:Int)):=by simp [WideAt.IsKeyLit]
  by_cases e:q=k
  · subst e
    simp only [if_pos];exact ⟨has_put_same h2 hkl _,fun v e z=>by cases e;exact atKey_put_same h2 hkl _ _⟩
  · simp only [if_neg e]
    exact ⟨(has_put_other (Qmb e) _).trans (h3 q hq).1,fun v e2 z=>(atKey_put_other (Qmb e) _ _).trans ((h3 q hq).2 v e2 z)⟩⟩ g2
 unfold Oper.wp;simp [execOp,hop,hm,hx,hv,hrun,Result.andThen];exact hf
def Qeq (l:List (Option Nat)):Array Value:=(l.map Value.map).toArray
theorem Qtg (l:List (Option Nat)) (i:Nat) (b:Option Nat):(Qeq l).setIfInBounds i (.map b)=Qeq (l.set i b):=by
 unfold Qeq;rw [List.setIfInBounds_toArray,List.map_set]
theorem Qgd {l:List (Option Nat)} {i:Nat} {b:Option Nat} (h:l[i]?=some b):(Qeq l)[i]?=some (.map b):=by
 unfold Qeq;rw [List.getElem?_toArray,List.getElem?_map,h]
 rfl
structure LvM (W:World) (ml:List (Option Nat)) (l:List Int) (av:List Int) (i:Nat) (b n:Nat) (f:Nat→Option Nat):Prop where
 c:ml[i]?=some (some b)
 m:MpI W b n f
 iff:∀ c:Nat,(f c).getD 0=0↔∀ x∈av,Qad l x≠(c:Int)
theorem LvM.grown {W W':World} {ml:List (Option Nat)} {l av:List Int} {i b n g:Nat} {f:Nat→Option Nat} (h:LvM W ml l av i b n f) (hg:W.grownBy W' (some g)) (hb:b≠g):LvM W' ml l av i b n f:=⟨h.c,h.m.grown hg (fun e=>hb (by injection e with e;exact e.symm)),h.iff⟩
def Qnw (W:World) (ml:List (Option Nat)) (ls:List (List Int)) (av:List Int) (j A B:Nat):Prop:=∀ i l,i<j→ls[i]?=some l→∃ b n f,LvM W ml l av i b n f∧A≤b∧b<B
theorem Qnw.grown {W W':World} {ml:List (Option Nat)} {ls:List (List Int)} {av:List Int} {j A B g:Nat} (h:Qnw W ml ls av j A B) (hg:W.grownBy W' (some g)) (hB:B≤g∨g<A):Qnw W' ml ls av j A B:=fun i l hi hl=>by
 obtain ⟨b,n,f,h1,h2,h3⟩:=h i l hi hl;exact ⟨b,n,f,h1.grown hg (by omega),h2,h3⟩
theorem Qnw.below {W W':World} {ml:List (Option Nat)} {ls:List (List Int)} {av:List Int} {j A B:Nat} (h:Qnw W ml ls av j A B) (hb:Below W.heap.size W W'):Qnw W' ml ls av j A B:=fun i l hi hl=>by
 obtain ⟨b,n,f,h1,h2,h3⟩:=h i l hi hl;exact ⟨b,n,f,⟨h1.c,h1.m.below hb,h1.iff⟩,h2,h3⟩
theorem Qnw.put {W:World} {ml:List (Option Nat)} {ls:List (List Int)} {av:List Int} {j A B:Nat} (h:Qnw W ml ls av j A B) (m:Option Nat):Qnw W (ml.set j m) ls av j A B:=fun i l hi hl=>by
 obtain ⟨b,n,f,h1,h2,h3⟩:=h i l hi hl;exact ⟨b,n,f,⟨by rw [List.getElem?_set_ne (by omega)];exact h1.c,h1.m,h1.iff⟩,h2,h3⟩
theorem Qnw.succ {W:World} {ml:List (Option Nat)} {ls:List (List Int)} {av l:List Int} {j A B b n:Nat} {f:Nat→Option Nat} (h:Qnw W ml ls av j A b) (hl:ls[j]?=some l) (hn:LvM W ml l av j b n f) (hA:A≤b) (hB:b<B):Qnw W ml ls av (j+1) A B:=fun i l' hi hl'=>by
 by_cases e:i=j
 · subst e
   rw [hl] at hl'
   cases hl'
   exact ⟨b,n,f,hn,hA,hB⟩
 · obtain ⟨b',n',f',h1,h2,h3⟩:=h i l' (by omega) hl'
   exact ⟨b',n',f',h1,h2,by omega⟩
def Qml (l:List Int)(av:List Int)(f:Nat→Option Nat):Prop:=∀ c:Nat,(f c).getD 0=0↔∀ x∈av,Qad l x≠(c:Int)
theorem Qml.nil (l:List Int):Qml l [] (fun _=>none):=fun c=>⟨fun _ x hx=>(by cases hx),fun _=>rfl⟩
theorem Qml.put {l av:List Int}{f:Nat→Option Nat}(h:Qml l av f){x:Int}{k:Nat} (hk:Qad l x=(k:Int)):Qml l (av ++[x]) (fun q=>if q=k then some 1 else f q):=fun c=>by
 by_cases e:c=k
 · subst e
   simp only [if_pos]
   constructor
   · intro h1;simp at h1
   · intro h1
     exact absurd hk (h1 x (by simp))
 · simp only [if_neg e]
   rw [h c]
   constructor
   · intro h1 y hy
     rcases List.mem_append.1 hy with hy|hy
     · exact h1 y hy
     · rw [List.mem_singleton.1 hy,hk]
       intro e2;exact e (by omega)
   · intro h1 y hy
     exact h1 y (List.mem_append.2 (.inl hy))
end Go.Proofs.YteaoiabikjnkeaaGreatDoor
