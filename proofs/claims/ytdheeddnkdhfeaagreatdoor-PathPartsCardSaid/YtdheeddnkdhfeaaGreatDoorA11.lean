/- Parts of the proof: Le1, InC, Mb, Le2, Le3, Le4, Wp. -/
import Derived.Test.YtdheeddnkdhfeaaGreatDoorA10
namespace Go.Proofs.YtdheeddnkdhfeaaGreatDoor
open Go.RowKit Go.Proofs.Tryz
attribute [local go_sem ↓] Go.wp_at_zero Go.wp_at_succ
structure LeW (W0 W:World) (K:Nat→Prop) (cb db gh n:Nat) (cl:List Int) (dn:List Bool) (hp:Nat→Option Int):Prop where
 kept:Qbc K W0 W
 size:W0.heap.size≤W.heap.size
 b0:Blk W cb 2 (Qcj cl)
 dd:Blk W db 4 (Qff dn)
 hh:Qco W (fun b=>K b∨b=cb∨b=db) gh n hp
 ld:dn.length=n
 kl:∀ b,K b→b<W0.heap.size
 kb:¬K cb∧¬K db∧cb≠db
section
variable {W0 W W':World} {K:Nat→Prop} {cb db gh n:Nat} {cl:List Int} {dn:List Bool} {hp hp':Nat→Option Int}
theorem LeW.below (h:LeW W0 W K cb db gh n cl dn hp)(hb:Below W.heap.size W W'):LeW W0 W' K cb db gh n cl dn hp :=
 ⟨h.kept.trans (Qbc.below hb) h.size,Yx h.size hb.size,h.b0.below hb h.b0.lt,h.dd.below hb h.dd.lt,h.hh.more hb (fun b hb'=>⟨Yu (h.hh.lt b hb') hb.size,.inl hb'⟩),h.ld,h.kl,h.kb⟩
theorem LeW.row (h:LeW W0 W K cb db gh n cl dn hp){i:Nat}{x:Int}{cl':List Int}(e:cl.set i x=cl'):LeW W0 (W.setCell ⟨cb,i,none⟩ (.int .i64 x)) K cb db gh n cl' dn hp :=
 ⟨h.kept.trans (Qbc.set _ _ _ _ h.kb.1) h.size,by simpa [World.setCell] using h.size,h.b0.setI e,h.dd.far_ (fun e=>h.kb.2.2 e.symm) _,h.hh.set (.inr (.inl rfl)) _,h.ld,h.kl,h.kb⟩
theorem LeW.mark (h:LeW W0 W K cb db gh n cl dn hp){p:Nat}:LeW W0 (W.setCell ⟨db,p,none⟩ (.bool true)) K cb db gh n cl (dn.set p true) hp :=
 ⟨h.kept.trans (Qbc.set _ _ _ _ h.kb.2.1) h.size,by simpa [World.setCell] using h.size,h.b0.far_ h.kb.2.2 _,h.dd.setB rfl,h.hh.set (.inr (.inr rfl)) _,by rw [Yq];exact h.ld,h.kl,h.kb⟩
theorem LeW.put (h:LeW W0 W K cb db gh n cl dn hp) (hh:Qco W' (fun b=>K b∨b=cb∨b=db) gh n hp') (ha:Aft (fun b=>K b∨b=cb∨b=db) W W'):LeW W0 W' K cb db gh n cl dn hp' :=
 ⟨h.kept.trans (ha.kept.mono (fun _ hb=>.inl hb)) h.size,Yx h.size ha.size,(ha.kept cb (.inr (.inl rfl)) h.b0.lt).trans h.b0,(ha.kept db (.inr (.inr rfl)) h.dd.lt).trans h.dd,hh,h.ld,h.kl,h.kb⟩
end
structure LeR (V:World) (c1 c2 c3 c4 cb db gh n off outs cap:Nat) (sum:Int):Prop where
 r0:V.cell? ⟨c1,0,none⟩=some (.slice (some ⟨cb,off,none⟩) outs cap)
 s0:V.cell? ⟨c2,0,none⟩=some (.int .i64 sum)
 d0:V.cell? ⟨c3,0,none⟩=some (.slice (some ⟨db,0,none⟩) n n)
 h0:V.cell? ⟨c4,0,none⟩=some (.pointer (some ⟨gh,0,none⟩))
theorem LeR.le {V W:World}{c1 c2 c3 c4 cb db gh n off outs cap:Nat}{sum:Int}(h:LeR V c1 c2 c3 c4 cb db gh n off outs cap sum)(hl:Le V W):LeR W c1 c2 c3 c4 cb db gh n off outs cap sum:=⟨hl _ _ h.r0,hl _ _ h.s0,hl _ _ h.d0,hl _ _ h.h0⟩
def mid (pre row post:List Int):List Int:=pre ++row ++post
theorem Qyc {pre row post:List Int}{k:Nat}{z:Int} (h:row[k]?=some z):(mid pre row post)[pre.length+k]?=some z:=by
 unfold mid;have hk:=(Zs h).1;rw [List.append_assoc,Yb (by omega),Yc (by omega),show pre.length+k-pre.length=k by omega,h]
theorem mid_set {pre row post:List Int}{k:Nat}(z:Int)(h:k<row.length):(mid pre row post).set (pre.length+k) z=mid pre (row.set k z) post:=by
 unfold mid;rw [List.append_assoc,List.set_append_right _ _ (by omega),List.set_append_left _ _ (by omega),show pre.length+k-pre.length=k by omega,List.append_assoc]
set_option maxHeartbeats 1000000 in
theorem Qwj (W0 w:World)(K:Nat→Prop)(c1 c2 c3 c4 cb db gh n off outs cap:Nat)(pre row post:List Int)(dn:List Bool)(hp:Nat→Option Int)(sum:Int)(s:Stp)
 (hR:LeR (msk W0 K) c1 c2 c3 c4 cb db gh n off outs cap sum) (hW:LeW W0 w K cb db gh n (mid pre row post) dn hp) (hpre:pre.length=off) (hrow:row.length=outs)
 (ho:s.2.1<outs) (ht:s.2.1<0→s.1<n) (h0:0≤sum) (h1:0≤s.2.2) (h2:sum+s.2.2≤1000000000000000000) :
 Calls prog 156 #[.agg #[.int .i64 s.1,.int .i64 s.2.1,.int .i64 s.2.2],.pointer (some ⟨c1,0,none⟩),.pointer (some ⟨c2,0,none⟩),.pointer (some ⟨c3,0,none⟩),.pointer (some ⟨c4,0,none⟩)] w
  fun e w'=>e=.returned (.tuple #[])∧LeW W0 w' K cb db gh n (mid pre (Qcp dn sum (row,hp) s).1 post) dn (Qcp dn sum (row,hp) s).2∧Aft K w w':=by
 obtain ⟨to,out,d⟩:=s;simp only at ho ht h1 h2 ⊢;have hRw:=hR.le (Le.kept hW.kept);have e1:IntKind.i64.wrap (sum+d)=sum+d:=IntWalk.i64_in _ (by omega);have HKL:=Zh (show ∀ b,K b→b<w.heap.size from fun b hb=>by have:=hW.kl b hb;have:=hW.size;omega)
 by_cases hout:0≤out
 · obtain ⟨k,rfl⟩:∃ k:Nat,out=(k:Int):=⟨out.toNat,by omega⟩
   have hk:k<row.length:=by omega
   obtain ⟨z,hz⟩:∃ z,row[k]?=some z:=⟨_,Zg hk⟩
   have hst:Qcp dn sum (row,hp) (to,(k:Int),d)=(row.set k (min z (sum+d)),hp):=by
    unfold Qcp;simp [hz]
   rw [hst];have HST:=Zh (mid_set (pre:=pre) (post:=post) (min z (sum+d)) hk);have HMG:=Zh (Qyc (pre:=pre) (post:=post) hz);have HW:=Zh hW;have HR:=Zh hRw;rw [hpre] at HST HMG;clear hst hz hR hW hRw hpre hrow
   go_enter func156,ntmps156
   go_wp2_with fail
   (refine Qai ?_;intro w1 hw1)
   have hb1:Below w.heap.size w w1:=by rw [hw1];exact Qah
   have hX:Blk w1 w.heap.size 269 #[.int .i64 to,.int .i64 k,.int .i64 d]:=by rw [hw1];exact Blk.new _ _ _
   have HW1:=Zh (HW.out.below hb1);have HR1:=Zh (HR.out.le (Le.below hb1));have HA1:=Zh (show Aft K w w1 from Aft.below hb1 HKL.out)
   have x1:w1.cell? ⟨w.heap.size,1,none⟩=some (.int .i64 k):=Zq hX;have x2:w1.cell? ⟨w.heap.size,2,none⟩=some (.int .i64 d):=Zq hX;have r0:=HR1.out.r0;have s0:=HR1.out.s0;have cz:=HW1.out.b0.cellI HMG.out;have cf:=HW1.out.b0.frozen (off+k);have i1:(0:Int)≤(k:Int):=by omega
   have i2:(k:Int)<(outs:Int):=by omega
   clear hw1 hX hb1;refine Qbl 14 (S:=fun V=>V=w1.drew) (by kernel_rfl) rfl (fun _=>?_);refine tkK 0 9 (h:=⟨_,tv,?_⟩);simp only [pE,List.set];refine tkF 1 10 (h:=⟨_,tv,?_⟩);simp only [pE,List.set];refine tkK 2 11 (h:=⟨_,tv,?_⟩);simp only [pE,List.set];refine tkK 3 12 (h:=⟨_,tv,?_⟩);simp only [pE,List.set];refine tkF 4 13 (h:=⟨_,tv,?_⟩);simp only [pE,List.set];refine tkK 5 14 (h:=⟨_,tv,?_⟩);simp only [pE,List.set];refine tkF 6 15 (h:=⟨_,tv,?_⟩);simp only [pE,List.set];refine tkK 7 16 (h:=⟨_,tv,?_⟩);simp only [pE,List.set];refine tkK 8 17 (h:=⟨_,tv,?_⟩);simp only [pE,List.set];refine tkF 9 18 (h:=⟨_,tv,?_⟩);simp only [pE,List.set];refine tkK 10 19 (h:=⟨_,tv,?_⟩);simp only [pE,List.set];refine tkF 11 20 (h:=⟨_,tv,?_⟩);simp only [pE,List.set];refine tkF 12 21 (h:=⟨_,tv,?_⟩);simp only [pE,List.set];refine tkF 13 22 (h:=⟨_,tv,?_⟩);simp only [pE,List.set];refine Qby (k:=14) (by kernel_rfl) rfl (fun K hK=>?_);go_simp;refine hK.out _ _ ?_;clear hK K;refine Qbt (by kernel_rfl) ?_ _
   try rw [show (if sum+d<z then sum+d else z)=min z (sum+d) by split <;> omega]
   go_wp2_with fail
   go_end0
   exact ⟨rfl,(HW1.out.row HST.out).below (Zr _ _).drew,(HA1.out.set HW1.out.kb.1 _).drew⟩
 · have hst:Qcp dn sum (row,hp) (to,out,d)=(row,if dn.getD to false=false then Qen hp to (sum+d) else hp):=by
    unfold Qcp;simp only [if_neg hout]
   rw [hst];have htn:to<n:=ht (by omega)
   have HW:=Zh hW;have HR:=Zh hRw;have htl:to<dn.length:=by rw [hW.ld];exact htn
   have HPU:=Zh (fun V (hV:LeW W0 V K cb db gh n (mid pre row post) dn hp)=>Qfn V hp hV.hh to htn (sum+d) (by omega) (by omega));obtain ⟨m,hm⟩:∃ m,dn.getD to false=m:=⟨_,rfl⟩;have HM:=Zh (show dn[to]?=some m from hm▸Qbn false htl)
   rw [hm];have c2f:=fun ob=>Zc (((Zr w.heap.size w)).alloc (Zn _) ob) (Zn _) hRw.s0
   have c3f:=fun ob=>Zc (((Zr w.heap.size w)).alloc (Zn _) ob) (Zn _) hRw.d0
   have c4f:=fun ob=>Zc (((Zr w.heap.size w)).alloc (Zn _) ob) (Zn _) hRw.h0
   have cdf:=fun ob=>Zc (((Zr w.heap.size w)).alloc (Zn _) ob) (Zn _) (hW.dd.cellB (i:=to) HM.out)
   have i1:(0:Int)≤(to:Int):=by omega
   have i2:(to:Int)<(n:Int):=by omega
   clear hst hR hW hRw hpre hrow hm ho htl
   cases m with
   | true =>
    go_enter func156,ntmps156
    go_wp2_with fail
    go_end0
    exact ⟨rfl,HW.out.below Qah,Aft.below Qah HKL.out⟩
   | false =>
    go_enter func156,ntmps156
    go_wp2_with fail
    (refine Qae ?_;intro w1 hw1)
    have hb1:Below w.heap.size w w1:=by rw [hw1];exact Qah
    clear hw1;with_reducible refine (HPU.out w1 (HW.out.below hb1)).mono ?_
    rintro e w2 ⟨rfl,hh,ha⟩;have HW2:=Zh ((HW.out.below hb1).put hh ha);have HA2:=Zh ((Aft.below hb1 HKL.out).trans (ha.mono (fun _ hb=>.inl hb)));clear hh ha hb1
    go_wp2_with fail
    go_end0
    exact ⟨rfl,by simpa using HW2.out,HA2.out⟩
theorem Le.mskBelow {w W:World}{K:Nat→Prop}(h:Below w.heap.size w W)(hK:∀ b,b<w.heap.size→K b):Le w (msk W K):=fun _ _ hc=>Qba.2 ⟨hK _ (Qaj hc),Zc h (Zn _) hc⟩
theorem Qer {W:World}{K:Nat→Prop}{b o:Nat}{v:Value}(h:W.cell? ⟨b,o,none⟩=some v)(hK:K b):(msk W K).cell? ⟨b,o,none⟩=some v:=Qba.2 ⟨hK,h⟩
def doneW (db:Nat)(W:World):Nat:=match W.heap[db]? with|some (.cells cs _ _)=>cs.toList.countP (fun v=>match v with|.bool true=>true|_=>false)|_=>0
theorem Qiz {db:Nat}{W:World}{t:TypeId}{dn:List Bool} (h:Blk W db t (Qff dn)):doneW db W=dn.countP (fun b=>b):=by
 unfold doneW;rw [show W.heap[db]?=some (.cells (Qff dn) t (0,0)) from h]
 simp only [Qff,List.toList_toArray,List.countP_map]
 congr 1
 funext b
 cases b <;> rfl
theorem Qeb:∀ {l:List Bool}{p:Nat},p<l.length→l.getD p false=false→(l.set p true).countP (fun b=>b)=l.countP (fun b=>b)+1
 | [],p,h,_=>by simp at h
 | b::l,0,_,h=>by
  have:b=false:=by simpa using h
  subst this;simp
 | b::l,p+1,h,h2=>by
  have:=Qeb (l:=l) (p:=p) (by simpa using h) (by simpa using h2);rw [Yk,List.countP_cons,List.countP_cons,this];omega
theorem Qjk (l:List Bool):l.countP (fun b=>b)≤l.length:=List.countP_le_length
theorem Qkv (n:Nat)(hn:n≤1000000000)(W:World):(Instr.makeSlice 154 (.int .i64 (n:Int)) (.int .i64 (n:Int))).run prog W=.ok (.slice (some ⟨W.heap.size,0,none⟩) n n) (W.alloc (.cells (Qbp (.bool false) n) 4)) :=
 Qfb (P:=prog) 154 4 (.bool false) 1 (by kernel_rfl) underlying154 rfl n (by omega) (by omega) .i64 .i64 W
def Qpl (W0:World)(k:Nat)(caps:Array Value)(L:Nat→List Stp)(n:Nat):Prop :=
 (∀ (args:Array Value) (W:World),(callFunc k args).run prog W=.ok (.enter k args) W)∧∀ (W:World) (p:Nat) (I:Nat→World→Prop) (c1 c2 c3 c4:Nat),p<n→I 0 W →
  (∀ i s V,(L p)[i]?=some s→I i V→Calls prog 156 #[.agg #[.int .i64 s.1,.int .i64 s.2.1,.int .i64 s.2.2],.pointer (some ⟨c1,0,none⟩),.pointer (some ⟨c2,0,none⟩),.pointer (some ⟨c3,0,none⟩),.pointer (some ⟨c4,0,none⟩)] V (fun e V'=>e=.returned (.tuple #[])∧I (i+1) V')) →
  (∀ i V V',I i V→Below V.heap.size V V'→I i V')→(∀ i V,I i V→Le W0 V) →
  Calls prog k (#[.int .i64 p,.func (.func 156) #[] #[.pointer (some ⟨c1,0,none⟩),.pointer (some ⟨c2,0,none⟩),.pointer (some ⟨c3,0,none⟩),.pointer (some ⟨c4,0,none⟩)]] ++caps) W (fun e W'=>e=.returned (.tuple #[])∧I (L p).length W')
theorem rep_next (N i:Nat)(h:i<N)(x y:Int):(List.replicate i x ++List.replicate (N-i) y).set i x=List.replicate (i+1) x ++List.replicate (N-(i+1)) y:=by
 rw [List.set_append_right _ _ (by simp),List.length_replicate,Yy];obtain ⟨m,hm⟩:∃ m,N-i=m+1:=⟨N-i-1,by omega⟩;rw [hm,show N-(i+1)=m by omega,List.replicate_succ,Yj,List.replicate_succ',List.append_assoc]
 rfl
structure RunF (V:World) (f c1 c3 c4 cb db gh n ns sc k off outs cap:Nat) (SA:Option Addr) (caps:Array Value):Prop where
 f0:V.cell? ⟨f,0,none⟩=some (.int .i64 n)
 f1:V.cell? ⟨f,1,none⟩=some (.slice SA ns sc)
 f2:V.cell? ⟨f,2,none⟩=some (.func (.func k) #[] caps)
 r0:V.cell? ⟨c1,0,none⟩=some (.slice (some ⟨cb,off,none⟩) outs cap)
 d0:V.cell? ⟨c3,0,none⟩=some (.slice (some ⟨db,0,none⟩) n n)
 x4:V.cell? ⟨c4,0,none⟩=some (.pointer (some ⟨gh,0,none⟩))
theorem RunF.le {V V':World}{f c1 c3 c4 cb db gh n ns sc k off outs cap:Nat}{SA:Option Addr}{caps:Array Value}(h:RunF V f c1 c3 c4 cb db gh n ns sc k off outs cap SA caps)(hl:Le V V'):RunF V' f c1 c3 c4 cb db gh n ns sc k off outs cap SA caps :=
 ⟨hl _ _ h.f0,hl _ _ h.f1,hl _ _ h.f2,hl _ _ h.r0,hl _ _ h.d0,hl _ _ h.x4⟩
structure OutW (w W:World) (K:Nat→Prop) (c4 gh n ns sc k:Nat) (SA:Option Addr) (caps:Array Value) (cl:List Int) (hp:Nat→Option Int):Prop where
 hh:Qco W (fun b=>K b∨b=w.heap.size+1) gh n hp
 kb:¬K (w.heap.size+1)
 kl:∀ b,K b→b<W.heap.size
 k0:∀ b,b≤w.heap.size→K b
 k4:K c4
 bb:Blk W (w.heap.size+1) 2 (Qcj cl)
 f0:W.cell? ⟨w.heap.size,0,none⟩=some (.int .i64 n)
 f1:W.cell? ⟨w.heap.size,1,none⟩=some (.slice SA ns sc)
 f2:W.cell? ⟨w.heap.size,2,none⟩=some (.func (.func k) #[] caps)
 x4:W.cell? ⟨c4,0,none⟩=some (.pointer (some ⟨gh,0,none⟩))
 bel:Below w.heap.size w W
def Quz (L:Nat→List Stp)(starts:List Nat)(outs N i:Nat)(cl:List Int):Prop:=cl.length=N∧(∀ j s q,j<i→starts[j]?=some s→q<outs→Lst (Qqw (StF L) (OuF L) s q) (cl.getD (j*outs+q) 0))∧∀ q,i*outs≤q→q<N→cl.getD q 0=1152921504606846976
theorem LeW.base {W0 W:World}{K:Nat→Prop}{cb db gh n:Nat}{cl:List Int}{dn:List Bool}{hp:Nat→Option Int}(h:LeW W0 W K cb db gh n cl dn hp):LeW W W K cb db gh n cl dn hp :=
 ⟨Qbc.refl _ _,Zn _,h.b0,h.dd,h.hh,h.ld,fun b hb=>Yu (h.kl b hb) h.size,h.kb⟩
theorem LeW.grow {W0 W W':World}{K K2:Nat→Prop}{cb db gh n:Nat}{cl:List Int}{dn:List Bool}{hp:Nat→Option Int}(h:LeW W0 W K cb db gh n cl dn hp)(hb:Below W.heap.size W W') (hK:∀ b,K2 b→K b∨(W.heap.size≤b∧b<W'.heap.size)):LeW W' W' K2 cb db gh n cl dn hp:=by
 have hl:=h.base.kl;have hs:=hb.size;refine ⟨Qbc.refl _ _,Zn _,h.b0.below hb h.b0.lt,h.dd.below hb h.dd.lt,h.hh.more hb (fun b hb'=>?_),h.ld,fun b hb'=>?_,fun e=>?_,fun e=>?_,h.kb.2.2⟩
 · have l1:=h.b0.lt
   have l2:=h.dd.lt
   rcases hb' with h1|h1|h1
   · rcases hK b h1 with h2|h2
     · exact ⟨by have:=hl b h2;omega,.inl (.inl h2)⟩
     · exact ⟨h2.2,.inr h2.1⟩
   · exact ⟨by omega,.inl (.inr (.inl h1))⟩
   · exact ⟨by omega,.inl (.inr (.inr h1))⟩
 · rcases hK b hb' with h2|h2
   · have:=hl b h2;omega
   · exact h2.2
 · have:=h.b0.lt
   rcases hK _ e with h2|h2
   · exact h.kb.1 h2
   · omega
 · have:=h.dd.lt
   rcases hK _ e with h2|h2
   · exact h.kb.2.1 h2
   · omega
theorem mid_eq (cl:List Int)(off outs:Nat):mid (cl.take off) ((cl.drop off).take outs) (cl.drop (off+outs))=cl:=by
 unfold mid;rw [List.append_assoc,←List.drop_drop,List.take_append_drop,List.take_append_drop]
theorem Qxk {pre row row' post:List Int}(hr:row.length=row'.length){q:Nat}(h:q<pre.length∨pre.length+row.length≤q):(mid pre row post).getD q 0=(mid pre row' post).getD q 0:=by
 unfold mid;rw [Ya,Ya,List.append_assoc,List.append_assoc]
 rcases h with h|h
 · rw [Yc h,Yc h]
 · rw [Yb (by omega),Yb (by omega),Yb (by omega),Yb (by omega),hr]
theorem Quz.next {L:Nat→List Stp}{starts:List Nat}{outs N i s:Nat}{cl row:List Int}(h:Quz L starts outs N i cl) (hs:starts[i]?=some s) (hN:i*outs+outs≤N) (hr:row.length=outs) (hl:∀ q,q<outs→Lst (Qqw (StF L) (OuF L) s q) (row.getD q 0)) :
 Quz L starts outs N (i+1) (mid (cl.take (i*outs)) row (cl.drop (i*outs+outs))):=by
 obtain ⟨h1,h2,h3⟩:=h;have hpl:(cl.take (i*outs)).length=i*outs:=by rw [Yw];omega
 have hm:=mid_eq cl (i*outs) outs;have hml:((cl.drop (i*outs)).take outs).length=outs:=by rw [Yw,List.length_drop];omega
 refine ⟨?_,fun j t q hj ht hq=>?_,fun q hq hqn=>?_⟩
 · unfold mid;rw [Yp,Yp,hpl,hr,List.length_drop];omega
 · rcases Nat.lt_or_ge j i with hji|hji
   · have hlt:j*outs+q<i*outs:=by
      have:=Nat.mul_le_mul_right outs (show j+1≤i by omega)
      rw [Nat.succ_mul] at this;omega
     rw [Qxk (row':=(cl.drop (i*outs)).take outs) (by omega) (.inl (by omega)),hm];exact h2 j t q hji ht hq
   · obtain rfl:j=i:=by omega
     rw [hs] at ht
     cases ht
     obtain ⟨z,hz⟩:∃ z,row[q]?=some z:=⟨_,Zg (by omega)⟩;have:=Qyc (pre:=cl.take (j*outs)) (post:=cl.drop (j*outs+outs)) hz;rw [hpl] at this;rw [Ya,this];have h4:=hl q hq;rw [Ya,hz] at h4;exact h4
 · rw [Nat.succ_mul] at hq
   rw [Qxk (row':=(cl.drop (i*outs)).take outs) (by omega) (.inr (by omega)),hm];exact h3 q (by omega) hqn
set_option maxRecDepth 100000 in
set_option maxHeartbeats 2000000 in
theorem Qsa (w:World)(n ns sc outs k:Nat)(SA:Option Addr)(caps:Array Value)(starts:List Nat)(L:Nat→List Stp)(M D:Int) (hS:RdI w SA ns (nis starts)) (hs:∀ s∈starts,s<n) (hn:n≤16384) (hns:ns≤16384) (houts:outs≤16384) (ho:0<outs)
 (hnx:Qpl w k caps L n) (hf:Qoa L n outs D) (he:∀ p,n≤p→L p=[]) (hM:∀ s∈starts,∀ p c,Rch (StF L) s p c→∃ e,Rch (StF L) s p e∧e≤M) (hM0:0≤M) (hD0:0≤D) (hMD:M+D≤500000000000000000) :
 Calls prog 108 #[.agg #[.int .i64 n,.slice SA ns sc,.func (.func k) #[] caps],.int .i64 outs] w
  fun e w'=>∃ b cl,e=.returned (.slice (some ⟨b,0,none⟩) (ns*outs) (ns*outs))∧Blk w' b 2 (Qcj cl)∧cl.length=ns*outs∧(∀ i s q,starts[i]?=some s→q<outs→Lst (Qqw (StF L) (OuF L) s q) (cl.getD (i*outs+q) 0))∧w.heap.size≤b∧Below w.heap.size w w':=by
 have hN:ns*outs≤268435456:=Yx (Nat.mul_le_mul hns houts) (by decide);obtain ⟨N,hNe⟩:∃ N,N=ns*outs:=⟨_,rfl⟩;have hmk:=Qet N (by omega);have hNi:((N:Nat):Int)=(ns:Int)*(outs:Int):=by rw [hNe];exact Int.natCast_mul ns outs
 have e1:IntKind.i64.wrap ((ns:Int)*(outs:Int))=(N:Int):=by rw [←hNi];exact IntWalk.i64_in _ (by omega)
 have HNE:=Zh hNe;have HS:=Zh hS;rw [←hNe] at hN ⊢;clear hNe hS hNi
 go_enter func108,ntmps108
 go_wp2_with fail
 (refine Qai ?_;intro w1 hw1)
 have hb1:Below w.heap.size w w1:=by rw [hw1];exact Qah
 have hX1:Blk w1 w.heap.size 212 #[.int .i64 n,.slice SA ns sc,.func (.func k) #[] caps]:=by rw [hw1];exact Qbh
 have hC1:Blk w1 (w.heap.size+1) 2 (Qcj (List.replicate 0 1152921504606846976 ++List.replicate (N-0) 0)):=by rw [hw1,Nat.sub_zero,List.replicate_zero,List.nil_append,←Qcf];exact Qbh
 clear hw1
 go_loopw [23] (fun q W=>∃ i:Nat,q=.int .i64 i∧i≤N∧Below w.heap.size w W∧Blk W w.heap.size 212 #[.int .i64 n,.slice SA ns sc,.func (.func k) #[] caps]∧Blk W (w.heap.size+1) 2 (Qcj (List.replicate i 1152921504606846976 ++List.replicate (N-i) 0))) (fun q _=>N-(intOf q).toNat)
 case atStart=>exact ⟨0,by go_num,Nat.zero_le _,hb1,hX1,hC1⟩
 case round =>
  clear hb1 hX1 hC1;obtain ⟨i,rfl,hin,hb,hX,hC⟩:=hrel
  by_cases hlt:i<N
  · obtain ⟨v0,hv0⟩:∃ v0,(List.replicate i (1152921504606846976:Int) ++List.replicate (N-i) 0)[i]?=some v0:=⟨_,Zg (by simp;omega)⟩
    have c0:=hC.cellI hv0;have f0:=hC.frozen i;have HC:=Zh (hC.setI (rep_next N i hlt 1152921504606846976 0));have HX:=Zh (hX.far_ (b:=w.heap.size+1) (o:=i) (by omega) (.int .i64 1152921504606846976));have HB:=Zh (show Below w.heap.size w (wr.setCell ⟨w.heap.size+1,i,none⟩ (.int .i64 1152921504606846976)) from Zi hb (by omega))
    have i1:(0:Int)≤(i:Int):=by omega
    have i2:(i:Int)<(N:Int):=by omega
    clear hb hX hC hv0
    go_wp2_with fail
    go_roundw
    case rel=>exact ⟨i+1,by go_num,by omega,HB.out,HX.out,HC.out⟩
    case measure=>simp [intOf];omega
  · obtain rfl:N=i:=by omega
    rw [Yy,List.replicate_zero,List.append_nil] at hC;have x0:wr.cell? ⟨w.heap.size,0,none⟩=some (.int .i64 n):=Zq hX;have x1:wr.cell? ⟨w.heap.size,1,none⟩=some (.slice SA ns sc):=Zq hX;have hxl:=hX.lt;have hclr:=hC.lt
    go_wp2_with fail
    with_reducible refine (Qmn wr n hn).mono ?_
    rintro e w3 ⟨gh,rfl,hh,hb3⟩;have hX3:=hX.below hb3 hX.lt;have hC3:=hC.below hb3 hC.lt;have hbw3:=Zb hb hb3;have x1':w3.cell? ⟨w.heap.size,1,none⟩=some (.slice SA ns sc):=Zq hX3;have hxl3:=hX3.lt;have HH:=Zh hh;clear x0 x1 hX hC hb hh
    go_wp2_with fail
    (refine Qai ?_;intro w4 hw4)
    have hb4:Below w3.heap.size w3 w4:=by rw [hw4];exact (Zr _ _).alloc (Zn _) _
    have hz4:w4.heap.size=w3.heap.size+1:=by rw [hw4];simp
    have hZ4:Blk w4 w3.heap.size 160 #[.pointer (some ⟨gh,0,none⟩)]:=by rw [hw4];exact Qbh
    have hX4:=hX3.below hb4 hX3.lt;have hC4:=hC3.below hb4 hC3.lt;have hs3:=hb3.size;have hcl:=hC3.lt
    have HO:=Zh (show OutW w w4 (fun b=>(b<wr.heap.size∨b=w3.heap.size)∧b≠w.heap.size+1) w3.heap.size gh n ns sc k SA caps (List.replicate N 1152921504606846976) (fun _=>none) from
     ⟨HH.out.more hb4 (fun b hb=>by have hb':((b<wr.heap.size∨b=w3.heap.size)∧b≠w.heap.size+1)∨b=w.heap.size+1:=hb;show b<w4.heap.size∧(b<wr.heap.size∨w3.heap.size≤b);omega),fun e=>e.2 rfl,fun b hb=>by have hb':(b<wr.heap.size∨b=w3.heap.size)∧b≠w.heap.size+1:=hb;omega,fun b hb=>(show (b<wr.heap.size∨b=w3.heap.size)∧b≠w.heap.size+1 by omega),(show (w3.heap.size<wr.heap.size∨w3.heap.size=w3.heap.size)∧w3.heap.size≠w.heap.size+1 by omega),hC4,Zq hX4,Zq hX4,Zq hX4,Zq hZ4,Zb hbw3 hb4⟩)
    have HD:=Zh (show Quz L starts outs N 0 (List.replicate N 1152921504606846976) from ⟨by simp,fun j s q hj=>by omega,fun q _ hq=>by rw [Ya,List.getElem?_replicate,if_pos hq];rfl⟩)
    clear hw4 hb4 hz4 hZ4 hX4 hC4 hb3 hX3 hC3 hbw3 HH x1' hxl hxl3 hs3 hcl hclr hmk
    go_loopw [36] (fun q W=>∃ (i:Nat) (K:Nat→Prop) (hp:Nat→Option Int) (cl:List Int),q=.int .i64 i∧i≤ns∧OutW w W K w3.heap.size gh n ns sc k SA caps cl hp∧Quz L starts outs N i cl) (fun q _=>ns-(intOf q).toNat)
    case atStart=>exact ⟨0,_,_,_,by go_num,Nat.zero_le _,HO.out,HD.out⟩
    case round =>
     clear HO HD;obtain ⟨i,K,hp,cl,rfl,hin,hO,hD⟩:=hrel;obtain ⟨wo,rfl⟩:∃ wo,wo=wr:=⟨_,rfl⟩
     by_cases hlt:i<ns
     · obtain ⟨s,hs'⟩:∃ s,starts[i]?=some s:=⟨_,Zg (by have:=HS.out.1;rw [Qck] at this;omega)⟩
       obtain ⟨sb,so,hSA,hcs⟩:=(HS.out.below hO.bel).2 i _ (Qcd hs');subst hSA;have f0:=hO.f0;have f1:=hO.f1;have x4:=hO.x4;have HO:=Zh hO;have HD:=Zh hD;have HS':=Zh hs';have i1:(0:Int)≤(i:Int):=by omega
       have i2:(i:Int)<(ns:Int):=by omega
       obtain ⟨off,hoff⟩:∃ off,off=i*outs:=⟨_,rfl⟩;have hle:off+outs≤N:=by have:=Nat.mul_le_mul_right outs (show i+1≤ns by omega);rw [Nat.succ_mul] at this;rw [HNE.out,hoff];exact this
       have hoffi:(off:Int)=(i:Int)*(outs:Int):=by rw [hoff];exact Int.natCast_mul i outs
       have e2:IntKind.i64.wrap ((i:Int)*(outs:Int))=(off:Int):=by rw [←hoffi];exact IntWalk.i64_in _ (by omega)
       have e3:IntKind.i64.wrap (((i:Int)+1)*(outs:Int))=((off+outs:Nat):Int):=by rw [Int.add_mul,Int.one_mul,←hoffi];push_cast;exact IntWalk.i64_in _ (by omega)
       have HOF:=Zh hoff;have hmb:=Qkv n (by omega);have lt0:=hO.kl _ (hO.k0 _ (Zn _));have lt4:=hO.kl _ hO.k4;have lt4a:w3.heap.size<wo.heap.size+1:=by omega
       have lt4b:w3.heap.size<wo.heap.size+1+1:=by omega
       clear hO hD hs' hoff hoffi
       go_wp2_with fail
       (refine Qae ?_;intro w5 hw5)
       have hb5:Below wo.heap.size wo w5:=by rw [hw5];exact (((Zr _ _).alloc (Zn _) _).alloc (by simp) _).alloc (by simp;omega) _
       have hz5:w5.heap.size=wo.heap.size+3:=by rw [hw5];simp
       have B1:Blk w5 wo.heap.size 36 #[.slice (some ⟨w.heap.size+1,off,none⟩) outs (N-off)]:=by rw [hw5];exact Qbh
       have BD:Blk w5 (wo.heap.size+1) 4 (Qff (List.replicate n false)):=by rw [hw5,←Qia];exact Qbh
       have B3:Blk w5 (wo.heap.size+1+1) 154 #[.slice (some ⟨wo.heap.size+1,0,none⟩) n n]:=by rw [hw5];exact Qbh
       clear hw5;obtain ⟨K1,hK1⟩:∃ K1:Nat→Prop,K1=fun b=>K b∨b=wo.heap.size∨b=wo.heap.size+1+1:=⟨_,rfl⟩
       have hK1':∀ b,K1 b→K b∨b=wo.heap.size∨b=wo.heap.size+1+1:=fun b hb=>by rw [hK1] at hb;exact hb
       have HK1:=Zh (show (∀ b,K b→K1 b)∧K1 wo.heap.size∧K1 (wo.heap.size+1+1) from by rw [hK1];exact ⟨fun b hb=>.inl hb,.inr (.inl rfl),.inr (.inr rfl)⟩)
       have hlc:=HO.out.bb.lt
       have HL5:=Zh (show LeW w5 w5 K1 (w.heap.size+1) (wo.heap.size+1) gh n cl (List.replicate n false) hp from
        ⟨Qbc.refl _ _,Zn _,HO.out.bb.below hb5 hlc,BD,HO.out.hh.more hb5 (fun b hb=>by
         have hkl:=HO.out.kl b
         rcases hb with h1|h1|h1
         · rcases hK1' b h1 with h2|h2
           · exact ⟨by have:=hkl h2;omega,.inl (.inl h2)⟩
           · exact ⟨by omega,.inr (by omega)⟩
         · exact ⟨by omega,.inl (.inr h1)⟩
         · exact ⟨by omega,.inr (by omega)⟩),by simp,fun b hb=>by
         have hkl:=HO.out.kl b
         rcases hK1' b hb with h2|h2
         · have:=hkl h2;omega
         · omega,⟨fun e=>(hK1' _ e).elim HO.out.kb (fun h=>by omega),fun e=>(hK1' _ e).elim (fun h=>by have:=HO.out.kl _ h;omega) (fun h=>by omega),by omega⟩⟩)
       have HF5:=Zh (show RunF (msk w5 K1) w.heap.size wo.heap.size (wo.heap.size+1+1) w3.heap.size (w.heap.size+1) (wo.heap.size+1) gh n ns sc k off outs (N-off) (some ⟨sb,so,none⟩) caps from
        have hk:=HK1.out;have hc:=fun a v=>Zc (w:=wo) (w':=w5) (B:=wo.heap.size) hb5 (a:=a) (v:=v) (Zn _)
        ⟨Qer (hc _ _ HO.out.f0) (hk.1 _ (HO.out.k0 _ (Zn _))),Qer (hc _ _ HO.out.f1) (hk.1 _ (HO.out.k0 _ (Zn _))),Qer (hc _ _ HO.out.f2) (hk.1 _ (HO.out.k0 _ (Zn _))),Qer (Zq B1) hk.2.1,Qer (Zq B3) hk.2.2,Qer (hc _ _ HO.out.x4) (hk.1 _ HO.out.k4)⟩)
       have HB5:=Zh (Zb HO.out.bel hb5);with_reducible refine (Qma w5 hp HL5.out.hh).mono ?_
       rintro e w6 ⟨rfl,hh6,ha6⟩;have HL6:=Zh (HL5.out.put hh6 ha6).base;have HF6:=Zh (HF5.out.le (ha6.kept.mono (fun _ hb=>.inl hb)).msk);have HB6:=Zh (HB5.out.trans (ha6.bel _ (fun b hb=>.inl (HK1.out.1 _ (HO.out.k0 _ (by omega))))));have x46:=(HF6.out.le (Qat _ _)).x4;clear hh6 ha6 hb5 hz5 B1 BD B3 hmb
       go_wp2_with fail
       have hsn:=hs s (Zm HS'.out);with_reducible refine (Qfn w6 (fun _=>none) HL6.out.hh s hsn 0 (by omega) (by omega)).mono ?_
       rintro e w7 ⟨rfl,hh7,ha7⟩;have HL7:=Zh (HL6.out.put hh7 ha7).base;have HF7:=Zh (HF6.out.le (ha7.kept.mono (fun _ hb=>.inl hb)).msk);have HB7:=Zh (HB6.out.trans (ha7.bel _ (fun b hb=>.inl (HK1.out.1 _ (HO.out.k0 _ (by omega))))));clear hh7 ha7 x46
       go_wp2_with fail
       have hpl:(cl.take off).length=off:=by rw [Yw,HD.out.1];omega
       have HPL:=Zh hpl
       have HI7:=Zh (LeI.init (L:=L) (n:=n) (outs:=outs) (start:=s) (B:=M+D) (hp:=Qen (fun _=>none) s 0) (row:=(cl.drop off).take outs) (by omega) (fun q=>by unfold Qen;rfl) (by
        refine List.ext_getElem? (fun q=>?_)
        rcases Nat.lt_or_ge q outs with h1|h1
        · have h2:=HD.out.2.2 (off+q) (by rw [←HOF.out];omega) (by omega)
          rw [List.getElem?_take_of_lt h1,List.getElem?_drop,List.getElem?_replicate,if_pos h1];rw [Ya] at h2;have h3:off+q<cl.length:=by rw [HD.out.1];omega
          rw [Zg h3] at h2 ⊢;exact congrArg some h2
        · rw [Yd (by rw [Yw];omega),Yd (by rw [List.length_replicate];exact h1)]))
       have HM7:=Zh (mid_eq cl off outs);clear hpl f0 f1 x4 hcs lt0 lt4 lt4a lt4b hK1;have HK7:=Zh (show ∀ b,b≤w.heap.size→K1 b from fun b hb=>HK1.out.1 _ (HO.out.k0 _ hb))
       have HK74:=Zh (show K1 w3.heap.size from HK1.out.1 _ HO.out.k4)
       have h0:∀ p q d,StF L p q d→0≤d:=fun p q d h=>(StF.bd hf he h).1
       have HMs:=Zh (hM s (Zm HS'.out));have HNX:=Zh hnx.2;have HL7':=Zh (show LeW w7 w7 K1 (w.heap.size+1) (wo.heap.size+1) gh n (mid (cl.take off) ((cl.drop off).take outs) (cl.drop (off+outs))) (List.replicate n false) (Qen (fun _=>none) s 0) by rw [HM7.out];exact HL7.out)
       clear HL7 HM7 HL5 HL6 HF5 HF6 HB5 HB6 hlc
       go_loopw [] (fun W=>∃ (K2:Nat→Prop) (dnf hp2:Nat→Option Int) (dn:List Bool) (row:List Int),(∀ b,K1 b→K2 b)∧LeW W W K2 (w.heap.size+1) (wo.heap.size+1) gh n (mid (cl.take off) row (cl.drop (off+outs))) dn hp2∧LeI L n outs s (M+D) dnf hp2 dn row ∧
        RunF (msk W K2) w.heap.size wo.heap.size (wo.heap.size+1+1) w3.heap.size (w.heap.size+1) (wo.heap.size+1) gh n ns sc k off outs (N-off) (some ⟨sb,so,none⟩) caps∧Below w.heap.size w W) (fun W=>n-doneW (wo.heap.size+1) W)
       case atStart=>exact ⟨K1,_,_,_,_,fun _ h=>h,HL7'.out,HI7.out,HF7.out,HB7.out⟩
       case round =>
        clear HL7' HI7 HF7 HB7;obtain ⟨K2,dnf,hp2,dn,row,hk2,hw,hi,hF,hb⟩:=hrel;obtain ⟨v8,rfl⟩:∃ v8,v8=wr:=⟨_,rfl⟩;have x4:=(hF.le (Qat _ _)).x4;have HPO:=Zh (Qmj v8 hp2 hw.hh);have HK2:=Zh hk2;have HW:=Zh hw;have HI:=Zh hi;have HF:=Zh hF;have HB:=Zh hb;clear hk2 hw hi hF hb
        go_wp2_with fail
        with_reducible refine HPO.out.mono ?_
        rintro e w9 ⟨h9,ha9⟩;have HF9:=Zh (HF.out.le (ha9.kept.mono (fun _ hb=>.inl hb)).msk);have HB9:=Zh (HB.out.trans (ha9.bel _ (fun b hb=>.inl (HK2.out _ (HK7.out b (by omega))))));have HA9:=Zh ha9;clear ha9
        rcases h9 with ⟨hno,rfl,hh⟩|⟨p,z,hpn,hpz,hmin,rfl,hh⟩
        · have HL9:=Zh (HW.out.put hh HA9.out)
          have HNO:=Zh hno;have HDN:=Zh (HI.out.done hf he HMs.out (by omega) hno);clear hno hh;obtain ⟨w10,hw10⟩:∃ w10,w10=w9.alloc (.cells #[.int .i64 0] 2):=⟨_,rfl⟩;have hb10:Below w9.heap.size w9 w10:=by rw [hw10];exact (Zr _ _).alloc (Zn _) _
          have HW10:=Zh hw10;have HLA:=Zh (HL9.out.below hb10).base;have HFA:=Zh ((HF9.out.le (Qbc.below hb10).msk).le (Qat _ _));have HBA:=Zh (Zb HB9.out hb10);clear hw10 hb10
          go_wp2_with fail
          rw [←HW10.out]
          go_roundw
          case rel =>
           have hfa:=HFA.out;refine ⟨i+1,K2,hp2,(mid (cl.take off) row (cl.drop (off+outs))),by go_num,by omega,⟨HLA.out.hh.less (fun b hb=>hb.elim .inl (fun h=>.inr (.inl h))),HLA.out.kb.1,HLA.out.kl,fun b hb=>HK2.out _ (HK7.out b hb),HK2.out _ HK74.out,HLA.out.b0,hfa.f0,hfa.f1,hfa.f2,hfa.x4,HBA.out⟩,?_⟩;have:=Quz.next (row:=row) HD.out HS'.out (by rw [←HOF.out];exact hle) HI.out.lr HDN.out;rw [←HOF.out] at this;exact this
          case measure=>simp [intOf];omega
        · have HL9:=Zh (HW.out.put hh HA9.out)
          have hz0:0≤z:=(HI.out.dij.hr p z hpz).pos h0;have hzM:z≤M:=HI.out.dij.bdTake h0 HMs.out hpz hmin
          have hdk:dn.getD p false=false:=by
           cases hd:dn.getD p false with
           | false=>rfl
           | true =>
            have h1:=(HI.out.fl p hpn).1 hd
            cases h2:dnf p with
            | none=>exact absurd h2 h1
            | some e=>have:=HI.out.dij.off p e h2;rw [hpz] at this;cases this
          have hkl:p<dn.length:=by rw [HW.out.ld];exact hpn
          have HDK:=Zh hdk;have HKL:=Zh hkl;have HMI:=Zh hmin;have HPZ:=Zh hpz;have hf9:=HF9.out.le (Qat _ _);have hl9:=HL9.out.dd.lt;have hbp:=HL9.out.dd.cellB (i:=p) (Qbn false hkl);have q1:∀ ob,(w9.alloc ob).cell? ⟨wo.heap.size+1+1,0,none⟩=some (.slice (some ⟨wo.heap.size+1,0,none⟩) n n):=fun ob=>Zc ((Zr w9.heap.size w9).alloc (Zn _) ob) (Zn _) hf9.d0
          have q2:∀ ob,(w9.alloc ob).cell? ⟨wo.heap.size+1,p,none⟩=some (.bool (dn.getD p false)):=fun ob=>Zc ((Zr w9.heap.size w9).alloc (Zn _) ob) (Zn _) hbp
          have q3:∀ ob,(w9.alloc ob).frozen? ⟨wo.heap.size+1,p,none⟩=false:=fun ob=>(HL9.out.dd.alloc ob).frozen p
          have hm9:=HL9.out.mark (p:=p);have hf10:=hf9.f2;have hne:¬w.heap.size=wo.heap.size+1:=fun e=>HL9.out.kb.2.1 (e▸HK2.out _ (HK7.out _ (Zn _)))
          have q4':(w9.setCell ⟨wo.heap.size+1,p,none⟩ (.bool true)).cell? ⟨w.heap.size,2,none⟩=some (.func (.func k) #[] caps):=by
           rw [World.cell?_setCell_other _ _ _ _ (by simp)];exact hf10
          have q4:∀ ob,((w9.setCell ⟨wo.heap.size+1,p,none⟩ (.bool true)).alloc ob).cell? ⟨w.heap.size,2,none⟩=some (.func (.func k) #[] caps):=fun ob=>Zc ((Zr (w9.setCell ⟨wo.heap.size+1,p,none⟩ (.bool true)).heap.size _).alloc (Zn _) ob) (Zn _) q4'
          have HM9:=Zh hm9;clear hf10 q4' hm9;have i3:(0:Int)≤(p:Int):=by omega
          have i4:(p:Int)<(n:Int):=by omega
          clear hh hpz hmin hdk hkl hf9 hbp;have hcf:=hnx.1
          go_wp2_with fail
          (refine Qae ?_;intro w10 hw10)
          clear hcf;have hz9:(w9.setCell ⟨wo.heap.size+1,p,none⟩ (.bool true)).heap.size=w9.heap.size:=by simp [World.setCell]
          have hb10:Below (w9.setCell ⟨wo.heap.size+1,p,none⟩ (.bool true)).heap.size (w9.setCell ⟨wo.heap.size+1,p,none⟩ (.bool true)) w10:=by rw [hw10];exact (Zr _ _).alloc (Zn _) _
          have hC10:Blk w10 w9.heap.size 2 #[.int .i64 z]:=by rw [hw10];exact Blk.new' _ _ _ hz9.symm
          have hz10:w10.heap.size=w9.heap.size+1:=by rw [hw10];simp
          obtain ⟨K3,hK3⟩:∃ K3:Nat→Prop,K3=fun b=>K2 b∨b=w9.heap.size:=⟨_,rfl⟩
          have hK3':∀ b,K3 b→K2 b∨b=w9.heap.size:=fun b hb=>by rw [hK3] at hb;exact hb
          have hK23:∀ b,K2 b→K3 b:=fun b hb=>by rw [hK3];exact .inl hb
          have hK3c:K3 w9.heap.size:=by rw [hK3];exact .inr rfl
          have hkb2:¬K2 (wo.heap.size+1):=HL9.out.kb.2.1;have HL10:=Zh (HM9.out.grow (K2:=K3) hb10 (fun b hb=>(hK3' b hb).imp id (fun e=>by rw [hz9,hz10];omega)));have HF10:=Zh (show RunF (msk w10 K3) _ _ _ _ _ _ _ _ _ _ _ _ _ _ _ _ from HF9.out.le ((Qbc.msk (show Qbc K2 w9 w10 from (Qbc.set _ _ _ _ hkb2).trans (Qbc.below hb10) (by rw [hz9];exact Zn _))).trans (Qbk hK23)))
          have HB10:=Zh (show Below w.heap.size w w10 from Zb (Zi (b:=wo.heap.size+1) (o:=p) (u:=.bool true) HB9.out (by have:=HO.out.bel.size;omega)) hb10)
          have HK23:=Zh hK23;have HR10:=Zh (show LeR (msk w10 K3) wo.heap.size w9.heap.size (wo.heap.size+1+1) w3.heap.size (w.heap.size+1) (wo.heap.size+1) gh n off outs (N-off) z from ⟨HF10.out.r0,Qer (Zq hC10) hK3c,HF10.out.d0,HF10.out.x4⟩)
          have hk0:∀ b,b<w.heap.size→K3 b:=fun b hb=>hK23 _ (HK2.out _ (HK7.out b (by omega)))
          clear hK3 hK3' hK23 hK3c hkb2 hb10 hC10 hz10 hz9 hw10 q1 q2 q3 q4
          have HCA:=Zh (HNX.out w10 p (fun q V=>LeW w10 V K3 (w.heap.size+1) (wo.heap.size+1) gh n (mid (cl.take off) (((L p).take q).foldl (Qcp (dn.set p true) z) (row,fun q=>if q=p then none else hp2 q)).1 (cl.drop (off+outs))) (dn.set p true) (((L p).take q).foldl (Qcp (dn.set p true) z) (row,fun q=>if q=p then none else hp2 q)).2∧Aft K3 w10 V) wo.heap.size w9.heap.size (wo.heap.size+1+1) w3.heap.size hpn
           ⟨HL10.out,Aft.refl _ _⟩ (fun q t V ht hv=>by
            obtain ⟨hv,ha⟩:=hv;have hm:=Zm ht
            have hfold:((L p).take (q+1)).foldl (Qcp (dn.set p true) z) (row,fun q=>if q=p then none else hp2 q)=Qcp (dn.set p true) z (((L p).take q).foldl (Qcp (dn.set p true) z) (row,fun q=>if q=p then none else hp2 q)) t:=by
             rw [List.take_add_one,ht,List.foldl_append];rfl
            have hlen:(((L p).take q).foldl (Qcp (dn.set p true) z) (row,fun q=>if q=p then none else hp2 q)).1.length=outs:=by rw [Qkt];exact HI.out.lr
            rw [hfold];generalize (((L p).take q).foldl (Qcp (dn.set p true) z) (row,fun q=>if q=p then none else hp2 q))=st at hv hlen;have hbd:=hf.bd p hpn t hm;exact (Qwj w10 V K3 wo.heap.size w9.heap.size (wo.heap.size+1+1) w3.heap.size (w.heap.size+1) (wo.heap.size+1) gh n off outs (N-off) (cl.take off) st.1 (cl.drop (off+outs)) (dn.set p true) st.2 z t HR10.out hv HPL.out hlen (hf.out p hpn t hm) (hf.to_ p hpn t hm) hz0 hbd.1 (by omega)).mono (fun e V' h=>⟨h.1,h.2.1,ha.trans h.2.2⟩))
           (fun q V V' hv hb=>⟨hv.1.below hb,hv.2.trans (Aft.below hb (fun b hb'=>hv.1.base.kl b hb'))⟩)
           (fun q V hv=>Le.below (HB10.out.trans (hv.2.bel _ hk0))))
          with_reducible refine HCA.out.mono ?_
          rintro e w11 ⟨rfl,hw11,ha11⟩;rw [List.take_length] at hw11;have HI11:=Zh (HI.out.next hf he HMs.out (Int.le_refl _) hpn HPZ.out HMI.out);have HW11:=Zh hw11.base;have HF11:=Zh (HF10.out.le ha11.kept.msk);have HB11:=Zh (HB10.out.trans (ha11.bel _ hk0));clear hw11 ha11 HCA
          go_wp2_with fail
          go_roundw
          case rel=>exact ⟨K3,_,_,_,_,fun b hb=>HK23.out _ (HK2.out _ hb),HW11.out,HI11.out,HF11.out,HB11.out⟩
          case measure =>
           rw [Qiz HW11.out.dd,Qiz HW.out.dd,Qeb HKL.out HDK.out];have h1:=Qjk (dn.set p true);rw [Qeb HKL.out HDK.out,Yq,HW.out.ld] at h1;omega
     · obtain rfl:ns=i:=by omega
       have HD:=Zh hD;have HO:=Zh hO;clear hD hO
       go_wp2_with fail
       go_ret
       exact ⟨_,cl,rfl,HO.out.bb,HD.out.1,fun j s q h1 h2=>HD.out.2.1 j s q (by have:=(Zs h1).1;have h3:=HS.out.1;rw [Qck] at h3;omega) h1 h2,by omega,HO.out.bel⟩
def Qkw (l:List Stp):List Tri:=l.map (fun s=>((s.1:Int),s.2.1,s.2.2))
theorem Qtc {l:List Stp}{i:Nat}{s:Stp} (h:l[i]?=some s):(Qkw l)[i]?=some ((s.1:Int),s.2.1,s.2.2):=by simp [Qkw,h]
def Qmq (W:World)(SB:Option Addr)(n:Nat)(L:Nat→List Stp):Prop:=∀ p,p<n→∃ b o A m c,SB=some ⟨b,o,none⟩∧W.cell? ⟨b,o+p,none⟩=some (.slice A m c)∧Rd3 W A m (Qkw (L p))∧m≤1000000
set_option maxHeartbeats 1000000 in
theorem Qrv (W0:World)(cs n cap:Nat)(SB:Option Addr)(L:Nat→List Stp) (hc:W0.cell? ⟨cs,0,none⟩=some (.slice SB n cap)) (h:Qmq W0 SB n L):Qpl W0 154 #[.pointer (some ⟨cs,0,none⟩)] L n:=by
 refine ⟨fun args W=>by simp [go_sem],fun W p I c1 c2 c3 c4 hp h0 hst hbl hle=>?_⟩;have hl0:=hle 0 W h0;obtain ⟨b,o,A,m,c,rfl,g1,g2,g3⟩:=h p hp;have k0:=hl0 _ _ hc;have k1:=hl0 _ _ g1;have i1:(0:Int)≤(p:Int):=by omega
 have i2:(p:Int)<(n:Int):=by omega
 have HLE:=Zh hle;have HST:=Zh hst;have HBL:=Zh hbl;have HG2:=Zh g2;have H0:=Zh h0;have hlen:(L p).length=m:=by have:=g2.1;simpa [Qkw] using this
 have HLN:=Zh hlen;clear hle hst hbl hl0 g2 h0 hlen h hc
 show Calls prog 154 #[.int .i64 p,.func (.func 156) #[] #[.pointer (some ⟨c1,0,none⟩),.pointer (some ⟨c2,0,none⟩),.pointer (some ⟨c3,0,none⟩),.pointer (some ⟨c4,0,none⟩)],.pointer (some ⟨cs,0,none⟩)] W _
 go_enter func154,ntmps154
 go_wp2_with fail
 go_loopw [12] (fun q V=>∃ i:Nat,q=.int .i64 i∧i≤m∧I i V) (fun q _=>m-(intOf q).toNat)
 case atStart=>exact ⟨0,by go_num,Nat.zero_le _,H0.out⟩
 case round =>
  obtain ⟨i,rfl,hin,hI⟩:=hrel;obtain ⟨v8,rfl⟩:∃ v8,v8=wr:=⟨_,rfl⟩;have HI:=Zh hI
  by_cases hlt:i<m
  · obtain ⟨s,hs⟩:∃ s,(L p)[i]?=some s:=⟨_,Zg (by rw [HLN.out];exact hlt)⟩
    obtain ⟨sb,so,rfl,s0,s1,s2⟩:=(HG2.out.le (HLE.out i v8 hI)).2 i _ (Qtc hs);have HS:=Zh hs;have j1:(0:Int)≤(i:Int):=by omega
    have j2:(i:Int)<(m:Int):=by omega
    clear hs hI
    go_wp2_with fail
    (refine Qae ?_;intro w2 hw2)
    have hb2:Below v8.heap.size v8 w2:=by rw [hw2];exact (Zr _ _).alloc (Zn _) _
    have HI2:=Zh (HBL.out i v8 w2 HI.out hb2);clear hw2 hb2;with_reducible refine (HST.out i s w2 HS.out HI2.out).mono ?_
    rintro e w3 ⟨rfl,hI3⟩;have HI3:=Zh hI3;clear hI3
    go_wp2_with fail
    go_roundw
    case rel=>exact ⟨i+1,by go_num,by omega,HI3.out⟩
    case measure=>simp [intOf];omega
  · obtain rfl:m=i:=by omega
    go_wp2_with fail
    go_end0
    exact ⟨rfl,by rw [HLN.out];exact HI.out⟩
def Qfk (costs:List Int):Nat→List Stp→List Stp
 | _,[]=>[]
 | f,s::l=>(if costs.getD f 0<1152921504606846976∧s.2.2<1152921504606846976 then [(s.1,s.2.1,s.2.2+costs.getD f 0)] else []) ++Qfk costs (f+1) l
theorem Qkj (costs:List Int):∀ (a b:List Stp) (f:Nat),Qfk costs f (a ++b)=Qfk costs f a ++Qfk costs (f+a.length) b
 | [],b,f=>by simp [Qfk]
 | s::a,b,f=>by
  simp only [List.cons_append,Qfk,Qkj costs a b (f+1),List.length_cons,List.append_assoc];rw [show f+(a.length+1)=f+1+a.length by omega]
theorem Qlz (costs:List Int){l:List Stp}{i:Nat}{s:Stp} (h:l[i]?=some s) (f:Nat):Qfk costs f (l.take (i+1))=Qfk costs f (l.take i) ++(if costs.getD (f+i) 0<1152921504606846976∧s.2.2<1152921504606846976 then [(s.1,s.2.1,s.2.2+costs.getD (f+i) 0)] else []):=by
 have hi:=(Zs h).1;rw [Yf hi,(Zs h).2,Qkj,Yw,Nat.min_eq_left (by omega)];simp [Qfk]
theorem toldK_at (costs:List Int){l:List Stp}{i:Nat}{s:Stp} (h:l[i]?=some s) (f:Nat) (ht:costs.getD (f+i) 0<1152921504606846976∧s.2.2<1152921504606846976):(Qfk costs f l)[(Qfk costs f (l.take i)).length]?=some (s.1,s.2.1,s.2.2+costs.getD (f+i) 0):=by
 have h1:=Qlz costs h f;rw [if_pos ht] at h1;have h2:=Qkj costs (l.take (i+1)) (l.drop (i+1)) f;rw [List.take_append_drop] at h2;rw [h2,h1,List.append_assoc,Yb (Zn _),Yy]
 rfl
theorem Qhj (costs:List Int):∀ {l:List Stp} {f:Nat} {t:Stp},t∈Qfk costs f l↔∃ (i:Nat) (s:Stp),l[i]?=some s∧costs.getD (f+i) 0<1152921504606846976∧s.2.2<1152921504606846976∧t=(s.1,s.2.1,s.2.2+costs.getD (f+i) 0)
 | [],f,t=>by simp [Qfk]
 | s::l,f,t=>by
  simp only [Qfk,List.mem_append,Qhj costs (l:=l)]
  constructor
  · rintro (h|⟨i,s',h1,h2,h3,h4⟩)
    · by_cases hc:costs.getD f 0<1152921504606846976∧s.2.2<1152921504606846976
      · rw [if_pos hc] at h
        exact ⟨0,s,rfl,hc.1,hc.2,by simpa using h⟩
      · rw [if_neg hc] at h;cases h
    · refine ⟨i+1,s',by simpa using h1,?_⟩
      rw [show f+(i+1)=f+1+i by omega]
      exact ⟨h2,h3,h4⟩
  · rintro ⟨i,s',h1,h2,h3,h4⟩
    cases i with
    | zero =>
     left
     have:s=s':=by simpa using h1
     subst this;rw [Nat.add_zero] at h2 h4;rw [if_pos ⟨h2,h3⟩,h4];simp
    | succ i =>
     right
     refine ⟨i,s',by simpa using h1,?_⟩;rw [show f+1+i=f+(i+1) by omega]
     exact ⟨h2,h3,h4⟩
def Qpw (costs:List Int) (spots:List (Int×Nat)) (LL:Nat→List Stp) (p:Nat):List Stp:=match spots[p]? with|some x=>Qfk costs x.1.toNat (LL x.2)|none=>[]
theorem Qsf {costs:List Int} {spots:List (Int×Nat)} {LL:Nat→List Stp} {p l:Nat} {f:Int} (h:spots[p]?=some (f,l)):Qpw costs spots LL p=Qfk costs f.toNat (LL l):=by unfold Qpw;rw [h]
set_option maxHeartbeats 2000000 in
theorem Qpy (W0:World)(cs cl cc n nk N cap1 cap2 cap3:Nat)(SA LA CA:Option Addr) (spots:List (Int×Nat)) (LL:Nat→List Stp) (costs:List Int)
 (h1:W0.cell? ⟨cs,0,none⟩=some (.slice SA n cap1)) (h2:W0.cell? ⟨cl,0,none⟩=some (.slice LA nk cap2)) (h3:W0.cell? ⟨cc,0,none⟩=some (.slice CA N cap3))
 (g1:RdP W0 SA n (spots.map (fun p=>(p.1,(p.2:Int))))) (g2:Qmq W0 LA nk LL) (g3:RdI W0 CA N costs) (hN:N≤1000000000000)
 (hs:∀ (p:Nat) (f:Int) (l:Nat),spots[p]?=some (f,l)→l<nk∧(LL l=[]∨(0≤f∧f.toNat+(LL l).length≤N))) (hL:∀ (l:Nat),l<nk→∀ s∈LL l,0≤s.2.2∧s.2.2≤1152921504606846976) (hC:∀ z∈costs,0≤z∧z≤1152921504606846976) :
 Qpl W0 158 #[.pointer (some ⟨cs,0,none⟩),.pointer (some ⟨cl,0,none⟩),.pointer (some ⟨cc,0,none⟩)] (Qpw costs spots LL) n:=by
 refine ⟨fun args W=>by simp [go_sem],fun W p I c1 c2 c3 c4 hp h0 hst hbl hle=>?_⟩;have hl0:=hle 0 W h0;obtain ⟨f,l,hpf⟩:∃ f l,spots[p]?=some (f,l):=⟨(spots[p]'(by have:=g1.1;simp at this;omega)).1,(spots[p]'(by have:=g1.1;simp at this;omega)).2,by rw [Zg]⟩;obtain ⟨b,o,rfl,s1,s2⟩:=g1.2 p _ (by rw [Yt,hpf];rfl);simp only at s1 s2;obtain ⟨hlk,hfN⟩:=hs p f l hpf;obtain ⟨lb,lo,A,m,c,rfl,q1,q2,q3⟩:=g2 l hlk;have hlen:(LL l).length=m:=by have:=q2.1;simpa [Qkw] using this
 rw [Qsf hpf] at hst ⊢;have k1:=hl0 _ _ h1;have k2:=hl0 _ _ h2;have k4:=hl0 _ _ s1;have k5:=hl0 _ _ s2;have k6:=hl0 _ _ q1;have i1:(0:Int)≤(p:Int):=by omega
 have i2:(p:Int)<(n:Int):=by have:=g1.1;simp at this;omega
 have i3:(0:Int)≤(l:Int):=by omega
 have i4:(l:Int)<(nk:Int):=by omega
 have HLE:=Zh hle;have HST:=Zh hst;have HBL:=Zh hbl;have HG:=Zh (And.intro h3 (And.intro g3 q2));have H0:=Zh h0;have HLN:=Zh hlen;have HLL:=Zh (hL l hlk);have HCC:=Zh hC;obtain ⟨F,hF⟩:∃ F,F=f.toNat:=⟨_,rfl⟩;rw [←hF] at HST ⊢
 have hfm:m=0∨(0≤f∧F+m≤N):=by
  rcases hfN with h|h
  · left;rw [←hlen,h];rfl
  · right;rw [hF,←hlen];exact h
 have HFF:=Zh hF;clear hF;clear hle hst hbl hl0 q2 h0 hlen h1 h2 h3 g1 g2 g3 hs hL hC s1 s2 q1 hpf hfN
 show Calls prog 158 #[.int .i64 p,.func (.func 156) #[] #[.pointer (some ⟨c1,0,none⟩),.pointer (some ⟨c2,0,none⟩),.pointer (some ⟨c3,0,none⟩),.pointer (some ⟨c4,0,none⟩)],.pointer (some ⟨cs,0,none⟩),.pointer (some ⟨cl,0,none⟩),.pointer (some ⟨cc,0,none⟩)] W _
 go_enter func158,ntmps158
 go_wp2_with fail
 refine wp_region_held_drew (S:=fun V=>V=W.drew) (by kernel_rfl) rfl (fun _=>?_);refine tz 0 16 ?_;refine tz 1 17 ?_;refine tz 2 18 ?_;refine tz 3 19 ?_;refine tz 4 20 ?_;refine tz 5 21 ?_;refine tz 6 22 ?_;refine tz 7 23 ?_;refine tz 8 24 ?_;refine tz 9 25 ?_;refine Zd ?_;have HI0:=Zh (HBL.out 0 W W.drew H0.out (Zr _ _).drew);clear k1 k2 k4 k5 k6
 go_wp2_with fail
 go_loopw [25] (fun q V=>∃ i:Nat,q=.int .i64 i∧i≤m∧I (Qfk costs F ((LL l).take i)).length V) (fun q _=>m-(intOf q).toNat)
 case atStart=>exact ⟨0,by go_num,Nat.zero_le _,HI0.out⟩
 case round =>
  obtain ⟨i,rfl,hin,hI⟩:=hrel;obtain ⟨v8,rfl⟩:∃ v8,v8=wr:=⟨_,rfl⟩;have HI:=Zh hI
  by_cases hlt:i<m
  · have hf0:=hfm.resolve_left (by omega)
    obtain rfl:f=(F:Int):=by have:=HFF.out;omega
    have hfN:=hf0.2;obtain ⟨s,hs⟩:∃ s,(LL l)[i]?=some s:=⟨_,Zg (by rw [HLN.out];exact hlt)⟩;have hle8:=HLE.out _ v8 hI;obtain ⟨sb,so,rfl,s0,s1,s2⟩:=(HG.out.2.2.le hle8).2 i _ (Qtc hs);have k3:=hle8 _ _ HG.out.1;obtain ⟨z,hz⟩:∃ z,costs[F+i]?=some z:=⟨_,Zg (by have:=HG.out.2.1.1;omega)⟩;obtain ⟨cb,co,rfl,cz⟩:=(HG.out.2.1.le hle8).2 (F+i) z hz;have hgd:costs.getD (F+i) 0=z:=by rw [Ya,hz];rfl
    have HNT:=Zh (Qlz costs hs F);have HAT:=Zh (toldK_at costs hs F);rw [hgd] at HNT HAT;obtain ⟨z0,z1⟩:=HCC.out z (Zm hz);obtain ⟨d0,d1⟩:=HLL.out s (Zm hs);obtain ⟨to,out,d⟩:=s;simp only at s0 s1 s2 d0 d1 HNT HAT;have j1:(0:Int)≤(i:Int):=by omega
    have j2:(i:Int)<(m:Int):=by omega
    have e1:IntKind.i64.wrap ((F:Int)+(i:Int))=((F+i:Nat):Int):=by push_cast;exact IntWalk.i64_in _ (by omega)
    have e2:IntKind.i64.wrap (d+z)=d+z:=IntWalk.i64_in _ (by omega);have j3:((F+i:Nat):Int)<(N:Int):=by omega
    have j4:(0:Int)≤((F+i:Nat):Int):=by omega
    have j5:(F:Int)+(i:Int)<(N:Int):=by omega
    have kk3:=fun ob=>Zc ((Zr v8.heap.size v8).alloc (Zn _) ob) (Zn _) k3
    have kkz:=fun ob=>Zc ((Zr v8.heap.size v8).alloc (Zn _) ob) (Zn _) cz
    clear hs hI hz hgd hle8
    have hno:¬(z<1152921504606846976∧d<1152921504606846976)→I (Qfk costs F ((LL l).take (i+1))).length (v8.alloc (.cells #[.int .i64 to,.int .i64 out,.int .i64 d] 269)):=fun h=>by
     rw [HNT.out,if_neg h,List.append_nil];exact HBL.out _ _ _ HI.out ((Zr _ _).alloc (Zn _) _)
    have HNO:=Zh hno;clear hno
    by_cases hz1:1152921504606846976≤z
    · go_wp2_with fail
      exact Kcl
    · by_cases hd1:1152921504606846976≤d
      · have hz2:z<1152921504606846976:=by omega
        go_wp2_with fail
        exact Kcl
      · have hz2:z<1152921504606846976:=by omega
        have hd2:d<1152921504606846976:=by omega
        have HT:=Zh (HAT.out ⟨hz2,hd2⟩);have HN:=Zh HNT.out;rw [if_pos ⟨hz2,hd2⟩] at HN
        go_wp2_with fail
        (refine Qae ?_;intro w2 hw2)
        have hb2:Below v8.heap.size v8 w2:=by rw [hw2];exact Qah
        have HI2:=Zh (HBL.out _ v8 w2 HI.out hb2);clear hw2 hb2;with_reducible refine (HST.out _ _ w2 HT.out HI2.out).mono ?_
        rintro e w3 ⟨rfl,hI3⟩;have HI3:=Zh hI3;clear hI3
        go_wp2_with fail
        go_roundw
        case rel=>exact ⟨i+1,by go_num,by omega,by rw [HN.out,Yp];exact HI3.out⟩
        case measure=>simp [intOf];omega
  · obtain rfl:m=i:=by omega
    go_wp2_with fail
    go_end0
    refine ⟨rfl,?_⟩;have:=HI.out;rw [Ye (by rw [HLN.out];exact Zn _)] at this;exact this
end Go.Proofs.YtdheeddnkdhfeaaGreatDoor
namespace Go.Proofs.YtdheeddnkdhfeaaGreatDoor
theorem Qjp (l:List Nat):∀ {a b:Nat},a≤b→(l.take a).sum≤(l.take b).sum:=by
 induction l with
 | nil=>intro a b _;simp
 | cons x t ih =>
  intro a b h
  cases a with
  | zero=>simp
  | succ a =>
   cases b with
   | zero=>omega
   | succ b =>
    have:=ih (a:=a) (b:=b) (by omega);simp only [List.take_succ_cons,List.sum_cons];omega
theorem Qhw (row:List Qak){a b:Nat}(h:a≤b):Qdv (row.take a)≤Qdv (row.take b):=by
 unfold Qdv;rw [List.map_take,List.map_take];exact Qjp _ h
theorem Qhr (gs:List (List Qak)) {a b:Nat} (h:a≤b):Qbx (gs.take a)≤Qbx (gs.take b):=by
 unfold Qbx;rw [List.map_take,List.map_take];exact Qjp _ h
theorem Qjd (row:List Qak)(a:Nat):Qdv (row.take a)≤Qdv row:=by
 have:=Qhw row (a:=a) (b:=max a row.length) (by omega);rw [Ye (l:=row) (i:=max a row.length) (by omega)] at this;exact this
theorem Qfr (gs:List (List Qak)) (a:Nat):Qbx (gs.take a)≤Qbx gs:=by
 have:=Qhr gs (a:=a) (b:=max a gs.length) (by omega);rw [Ye (l:=gs) (i:=max a gs.length) (by omega)] at this;exact this
def Qey (gs:List (List Qak)) (row:List Qak) (i c:Nat) (x:Qak) (a b:Nat):Nat:=Qbx (gs.take i)+Qdv (row.take c)+(a*x.2.length+b)
theorem Qql {gs:List (List Qak)} {row:List Qak} {i c a b:Nat} {x:Qak} (hx:row[c]?=some x) (ha:a<x.1.length) (hb:b<x.2.length):Qey gs row i c x a b<Qbx (gs.take i)+Qdv (row.take (c+1)):=by
 unfold Qey;rw [Qdf hx]
 have:a*x.2.length+b<szG x:=by
  unfold szG;have h1:(a+1)*x.2.length≤x.1.length*x.2.length:=Nat.mul_le_mul_right _ ha;rw [Nat.add_mul,Nat.one_mul] at h1;omega
 omega
theorem Qja {gs:List (List Qak)} {row:List Qak} {i c a b:Nat} {x:Qak} (hr:gs[i]?=some row) (hx:row[c]?=some x) (ha:a<x.1.length) (hb:b<x.2.length):Qey gs row i c x a b<Qbx (gs.take (i+1)):=by
 have h:=Qql (gs:=gs) (i:=i) hx ha hb;have h2:=Qjd row (c+1);rw [Qdc hr];omega
end Go.Proofs.YtdheeddnkdhfeaaGreatDoor
