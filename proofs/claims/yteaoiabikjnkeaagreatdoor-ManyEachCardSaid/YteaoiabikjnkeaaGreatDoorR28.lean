/- Parts of the proof: MnU, AsH, AsX. -/
import Derived.Test.YteaoiabikjnkeaaGreatDoorR1
import Derived.Test.YteaoiabikjnkeaaGreatDoorR25
import Derived.Test.YteaoiabikjnkeaaGreatDoorR26
import Derived.Test.YteaoiabikjnkeaaGreatDoorR27
import Derived.Maps.Views
import Derived.Test.YteaoiabikjnkeaaGreatDoorShelf3
namespace Go.Proofs.YteaoiabikjnkeaaGreatDoor
open Go.RowKit Go.Maps Go.Proofs.Tryz
attribute [local go_sem ↓] Go.wp_at_zero Go.wp_at_succ
theorem MpI.at_ {W W':World}{b n:Nat}{f:Nat→Option Nat}(h:MpI W b n f) (e:W'.heap[b]?=W.heap[b]?):MpI W' b n f:=by
 obtain ⟨D,⟨es,clock,h1,h2⟩,h3⟩:=h;exact ⟨D,⟨es,clock,e.trans h1,h2⟩,h3⟩
def fK (ks:List Nat):Nat→Option Nat:=fun k=>if k∈ks then some 0 else none
def MpK (W:World)(b n:Nat)(ks:List Nat):Prop :=
 ∃ D:DataW Unit,W.ownsMap prog 3 (plainElem prog 3) b n D∧IsMap D∧(∀ k:Nat,k≤1000000000000→Maps.has D (.int .i64 k)=(fK ks k).isSome∧∀ v,fK ks k=some v→∀ z,D.atKey (.int .i64 k) z=.lit (.int .i64 v))∧Maps.size D=ks.length∧ks.Nodup
section
variable {W W':World} {b n:Nat} {ks:List Nat}
theorem MpK.mpI (h:MpK W b n ks):MpI W b n (fK ks):=by
 obtain ⟨D,h1,h2,h3,_⟩:=h;exact ⟨D,h1,h2,h3⟩
theorem MpK.nd (h:MpK W b n ks):ks.Nodup:=by
 obtain ⟨D,h1,h2,h3,_,h5⟩:=h;exact h5
theorem MpK.new' (w:World){g:Nat}(h:g=w.heap.size):MpK (w.alloc (.map #[] 0)) g 0 []:=by
 subst h;exact ⟨.map [],World.ownsMap_made _ _ _ _,isMap_empty,fun k _=>⟨rfl,fun v h=>by cases h⟩,rfl,List.nodup_nil⟩
theorem MpK.lt (h:MpK W b n ks):b<W.heap.size:=h.mpI.lt
theorem MpK.at_ (h:MpK W b n ks) (e:W'.heap[b]?=W.heap[b]?):MpK W' b n ks:=by
 obtain ⟨D,⟨es,clock,h1,h2⟩,h3⟩:=h;exact ⟨D,⟨es,clock,e.trans h1,h2⟩,h3⟩
theorem MpK.grown {r:Option Nat}(h:MpK W b n ks)(hg:W.grownBy W' r)(hr:r≠some b):MpK W' b n ks:=h.at_ (hg.block b h.lt (fun e=>hr e.symm))
theorem MpK.below (h:MpK W b n ks)(hb:Below W.heap.size W W'):MpK W' b n ks:=h.at_ (hb.block b h.lt)
theorem MpK.set {g i:Nat}(h:MpK W b n ks)(hg:g≠b)(v:Value):MpK (W.setCell ⟨g,i,none⟩ v) b n ks:=h.grown (Qaa _ _ _ _) (fun e=>hg (by injection e))
end
section
variable {w:World} {ops:Array Oper} {rest:List Oper} {o:Oper} {a:Act} {Q:Exit→Act→World→Prop} {b n:Nat} {ks:List Nat}
theorem Qvq (hg:o.guard=none)(m x v:Operand)(hop:o.op=Op.mapUpdate 264 m x v)(k:Nat) (hm:a.eval m=.map (some b)) (h:MpK w b n ks) (hn:n≤1000000000) (hx:a.eval x=.int .i64 k) (hv:a.eval v=.int .i64 0) (hk:k≤1000000000000)
 (hK:∀ w',MpK w' b (n+1) (if k∈ks then ks else k::ks)→w.grownBy w' (some b)→wpList prog ops Q rest (a.put o.dst undef) w'):wpList prog ops Q (o::rest) a w:=by
 obtain ⟨D,h1,h2,h3,h4,h5⟩:=h;have hkl:WideAt.IsKeyLit (Lit.int .i64 (k:Int)):=by simp [WideAt.IsKeyLit]
 refine wpList_mapUpdate_own w hg m x v 264 hop 3 3 Qgu underlying264 _ b n D hm h1 (by unfold maxLen;omega) _ _ _ hx hv (Qic hk) _ [] (plainElem_int underlying3 (WalkArith.wf_i64 (by omega))) (fun w' g1 g2=>hK w' ⟨_,g1,h2.put _ _,fun q hq=>?_,?_,?_⟩ g2)
 · have hf:fK (if k∈ks then ks else k::ks) q=if q=k then some 0 else fK ks q:=by
    unfold fK
    by_cases e:q=k
    · subst e
      by_cases e1:q∈ks <;> simp [e1]
    · by_cases e1:k∈ks <;> simp [e1,e]
   rw [hf]
   by_cases e:q=k
   · subst e
     simp only [if_pos];exact ⟨has_put_same h2 hkl _,fun v e z=>by cases e;exact atKey_put_same h2 hkl _ _⟩
   · simp only [if_neg e]
     exact ⟨(has_put_other (Qmb e) _).trans (h3 q hq).1,fun v e2 z=>(atKey_put_other (Qmb e) _ _).trans ((h3 q hq).2 v e2 z)⟩
 · rw [size_put (h1.tidy Qgu),(h3 k hk).1]
   unfold fK
   by_cases e1:k∈ks <;> simp [e1,h4]
 · by_cases e1:k∈ks
   · rw [if_pos e1];exact h5
   · rw [if_neg e1];exact List.nodup_cons.2 ⟨e1,h5⟩
theorem Qwt (hg:o.guard=none)(m:Operand) (hop:o.op=Op.call { callee:=Callee.builtin Builtin.len,args:=#[m],argTypes:=#[264] }) (hm:a.eval m=.map (some b)) (h:MpK w b n ks)
 (hK:wpList prog ops Q rest (a.put o.dst (.int .i64 (ks.length:Nat))) w):wpList prog ops Q (o::rest) a w:=by
 obtain ⟨D,h1,h2,h3,h4,h5⟩:=h;refine wpList_len_own w hg m 264 hop 3 3 underlying264 _ b n D hm h1 ?_;rw [h4];exact hK
end
def PlnK (W:World)(G:Nat→Prop)(pb:Nat) (ls:List (List Int)) (av:List Int):Prop:=∀ i l,ls[i]?=some l→∃ b n f,(G pb∧G b)∧PlnL W pb l av i b n f
section
variable {W W':World} {G G':Nat→Prop} {pb:Nat} {ls:List (List Int)} {av:List Int}
theorem PlnK.r (h:PlnK W G pb ls av):PlnR W pb ls av:=fun i l hl=>by
 obtain ⟨b,n,f,_,h1⟩:=h i l hl;exact ⟨b,n,f,h1⟩
theorem PlnK.kept (h:PlnK W G pb ls av)(hk:Qbf G W W'):PlnK W' G pb ls av:=fun i l hl=>by
 obtain ⟨b,n,f,hG,h1,h2,h3⟩:=h i l hl;exact ⟨b,n,f,hG,(Qbd.1 (Qbf.msk hk _ _ (Qev h1 hG.1))).2,h2.at_ (hk b hG.2 h2.lt),h3⟩
theorem PlnK.mono (h:PlnK W G pb ls av)(hm:∀ b,G b→G' b):PlnK W G' pb ls av:=fun i l hl=>by
 obtain ⟨b,n,f,hG,h1⟩:=h i l hl;exact ⟨b,n,f,⟨hm _ hG.1,hm _ hG.2⟩,h1⟩
end
theorem Nxw.aft {mb:Nat}{w W W':World}{H:Nat→Prop}(h:Nxw mb w W)(ha:Aft H W W')(hH:∀ b,b<w.heap.size→H b)(hm:mb<w.heap.size):Nxw mb w W' :=
 ⟨fun b hb hl=>(ha.kept b (hH b hl) (Nat.lt_of_lt_of_le hl h.size)).trans (h.kept b hb hl),Nat.le_trans h.size ha.size,fun B hB=>(h.bel B hB).trans (ha.bel B (fun b hb=>hH b (by omega)))⟩
theorem Nxw.put {mb g i:Nat}{w W:World}(h:Nxw mb w W)(hg:w.heap.size≤g)(hm:mb<w.heap.size)(v:Value):Nxw mb w (W.setCell ⟨g,i,none⟩ v) :=
 h.aft (H:=fun b=>b<w.heap.size) (Aft.set (Aft.refl _ _) (by omega) v) (fun _ hb=>hb) hm
structure MRA (W:World) (G:Nat→Prop) (qb g o:Nat) (N:Qap) (ls:List (List Int)) (TA:Option Addr) (nt ct:Nat) (tl:List Int) (CA:Option Addr) (NC cC:Nat) (cl:List Int) (Q:Option Addr) (L cq mb pb wb rb db n:Nat) (f:Nat→Nat→Option Value) (av:List Int) (ks:List Nat) (row:List Int) (dn:List Bool):Prop where
 qr:MR (msk W G) qb g o N ls TA nt ct tl CA NC cC cl Q L cq mb
 pl:PlnK W G pb ls av
 mq:MpQ W mb n f
 mc:MpC W G N.ar ls f
 wt:∃ nw,nw≤1000000∧MpK W wb nw ks
 rr:Blk W rb 2 (Qbu row)
 dd:Blk W db 4 (Qfl dn)
 gl:∀ b,G b→b<W.heap.size
 nb:(¬G mb∧¬G wb∧¬G rb∧¬G db)∧mb≠wb∧mb≠rb∧mb≠db∧wb≠rb∧wb≠db∧rb≠db
structure MRW (w W:World) (G:Nat→Prop) (qb g o:Nat) (N:Qap) (ls:List (List Int)) (TA:Option Addr) (nt ct:Nat) (tl:List Int) (CA:Option Addr) (NC cC:Nat) (cl:List Int) (Q:Option Addr) (L cq mb pb wb rb db gh na n0 n:Nat) (f:Nat→Nat→Option Value) (av:List Int) (ks:List Nat) (row:List Int) (dn:List Bool) (hp:Nat→Option Int):Prop where
 a:MRA W G qb g o N ls TA nt ct tl CA NC cC cl Q L cq mb pb wb rb db n f av ks row dn
 hh:Qcn W (fun b=>b<w.heap.size∨G b∨b=wb∨b=rb∨b=db) gh na hp
 nx:Nxw mb w W
 bs:mb<w.heap.size∧w.heap.size≤wb∧w.heap.size≤rb∧w.heap.size≤db
 nn:n≤n0+dn.countP (fun b=>b)
section
variable {w W W':World} {G:Nat→Prop} {qb g o:Nat} {N:Qap} {ls:List (List Int)} {TA:Option Addr} {nt ct:Nat} {tl:List Int} {CA:Option Addr} {NC cC:Nat} {cl:List Int} {Q:Option Addr} {L cq mb pb wb rb db gh na n0 n:Nat} {f:Nat→Nat→Option Value} {av:List Int} {ks:List Nat} {row:List Int} {dn:List Bool} {hp:Nat→Option Int}
theorem MRA.kept (h:MRA W G qb g o N ls TA nt ct tl CA NC cC cl Q L cq mb pb wb rb db n f av ks row dn) (hk:Qbf (fun b=>G b∨b=mb∨b=wb∨b=rb∨b=db) W W') (hz:W.heap.size≤W'.heap.size):MRA W' G qb g o N ls TA nt ct tl CA NC cC cl Q L cq mb pb wb rb db n f av ks row dn:=by
 have hK:=hk.mono (G':=G) (fun _ hb=>.inl hb);have hle:Le (msk W G) (msk W' G):=Qbf.msk hK;obtain ⟨nw,w1,w2⟩:=h.wt;exact ⟨h.qr.le hle,h.pl.kept hK,h.mq.at_ (hk mb (.inr (.inl rfl)) h.mq.lt),h.mc.le hle,⟨nw,w1,w2.at_ (hk wb (.inr (.inr (.inl rfl))) w2.lt)⟩,(hk rb (.inr (.inr (.inr (.inl rfl)))) h.rr.lt).trans h.rr,(hk db (.inr (.inr (.inr (.inr rfl)))) h.dd.lt).trans h.dd,fun b hb=>Nat.lt_of_lt_of_le (h.gl b hb) hz,h.nb⟩
theorem MRW.below (h:MRW w W G qb g o N ls TA nt ct tl CA NC cC cl Q L cq mb pb wb rb db gh na n0 n f av ks row dn hp)(hb:Below W.heap.size W W'):MRW w W' G qb g o N ls TA nt ct tl CA NC cC cl Q L cq mb pb wb rb db gh na n0 n f av ks row dn hp :=
 ⟨h.a.kept (Qbf.below hb) hb.size,h.hh.more hb (fun b hb'=>⟨Nat.lt_of_lt_of_le (h.hh.lt b hb') hb.size,.inl hb'⟩),h.nx.trans (Nxw.below hb h.a.mq.lt),h.bs,h.nn⟩
theorem MRW.nxt {n':Nat}{f':Nat→Nat→Option Value}(h:MRW w W G qb g o N ls TA nt ct tl CA NC cC cl Q L cq mb pb wb rb db gh na n0 n f av ks row dn hp)(hx:Nxw mb W W')(hm:MpQ W' mb n' f') (hc:MpC W' (G2 G W W') N.ar ls f') (hn:n'≤n0+dn.countP (fun b=>b)):MRW w W' (G2 G W W') qb g o N ls TA nt ct tl CA NC cC cl Q L cq mb pb wb rb db gh na n0 n' f' av ks row dn hp:=by
 have hng:∀ b,b<W.heap.size→¬G b→¬G2 G W W' b:=fun b h1 h2 h3=>h3.elim h2 (fun h4=>by omega)
 have hs:=hx.size;obtain ⟨⟨g1,g2,g3,g4⟩,d⟩:=h.a.nb;have hK:Qbf G W W':=hx.kept.mono (fun b hb e=>g1 (e▸hb));obtain ⟨nw,w1,w2⟩:=h.a.wt;refine ⟨⟨h.a.qr.le (G2.le hx g1),(h.a.pl.kept hK).mono (fun _ hb=>.inl hb),hm,hc,⟨nw,w1,w2.at_ (hx.kept wb (fun e=>d.1 e.symm) w2.lt)⟩,h.a.rr.grown hx.gb (fun e=>d.2.1 (by injection e)),h.a.dd.grown hx.gb (fun e=>d.2.2.1 (by injection e)),fun b hb=>?_,⟨hng _ h.a.mq.lt g1,hng _ w2.lt g2,hng _ h.a.rr.lt g3,hng _ h.a.dd.lt g4⟩,d⟩,h.hh.grown hx.gb (.inl h.bs.1) (fun b hb=>?_),h.nx.trans hx,h.bs,hn⟩
 · rcases hb with h1|h1
   · have:=h.a.gl b h1;omega
   · exact h1.2
 · have hw:=w2.lt
   have hr:=h.a.rr.lt;have hd:=h.a.dd.lt;have hsz:=h.nx.size
   rcases hb with h1|(h1|h1)|rfl|rfl|rfl
   · exact ⟨by omega,.inl (.inl h1)⟩
   · have:=h.a.gl b h1;exact ⟨by omega,.inl (.inr (.inl h1))⟩
   · exact ⟨h1.2,.inr h1.1⟩
   · exact ⟨by omega,.inl (.inr (.inr (.inl rfl)))⟩
   · exact ⟨by omega,.inl (.inr (.inr (.inr (.inl rfl))))⟩
   · exact ⟨by omega,.inl (.inr (.inr (.inr (.inr rfl))))⟩
theorem MRW.heap {hp':Nat→Option Int}(h:MRW w W G qb g o N ls TA nt ct tl CA NC cC cl Q L cq mb pb wb rb db gh na n0 n f av ks row dn hp) (hh:Qcn W' (fun b=>b<w.heap.size∨G b∨b=wb∨b=rb∨b=db) gh na hp') (ha:Aft (fun b=>b<w.heap.size∨G b∨b=wb∨b=rb∨b=db) W W'):MRW w W' G qb g o N ls TA nt ct tl CA NC cC cl Q L cq mb pb wb rb db gh na n0 n f av ks row dn hp' :=
 ⟨h.a.kept (ha.kept.mono (fun b hb=>by
  rcases hb with h1|rfl|h1
  · exact .inr (.inl h1)
  · exact .inl h.bs.1
  · exact .inr (.inr h1))) ha.size,hh,h.nx.aft ha (fun _ hb=>.inl hb) h.bs.1,h.bs,h.nn⟩
theorem MRW.done (h:MRW w W G qb g o N ls TA nt ct tl CA NC cC cl Q L cq mb pb wb rb db gh na n0 n f av ks row dn hp)(p:Nat):MRW w (W.setCell ⟨db,p,none⟩ (.bool true)) G qb g o N ls TA nt ct tl CA NC cC cl Q L cq mb pb wb rb db gh na n0 n f av ks row (dn.set p true) hp:=by
 obtain ⟨⟨g1,g2,g3,g4⟩,d⟩:=h.a.nb;have hK:Qbf G W (W.setCell ⟨db,p,none⟩ (.bool true)):=Qbf.set _ _ _ _ g4;obtain ⟨nw,w1,w2⟩:=h.a.wt;exact ⟨⟨h.a.qr.le (Qbf.msk hK),h.a.pl.kept hK,h.a.mq.set (fun e=>d.2.2.1 e.symm) _,h.a.mc.le (Qbf.msk hK),⟨nw,w1,w2.set (fun e=>d.2.2.2.2.1 e.symm) _⟩,h.a.rr.far_ d.2.2.2.2.2 _,h.a.dd.setB rfl,fun b hb=>by simpa [World.setCell] using h.a.gl b hb,h.a.nb⟩,h.hh.set (.inr (.inr (.inr (.inr rfl)))) _,h.nx.put h.bs.2.2.2 h.bs.1 _,h.bs,by have:=Qkk dn p;have:=h.nn;omega⟩
theorem MRW.row_ (h:MRW w W G qb g o N ls TA nt ct tl CA NC cC cl Q L cq mb pb wb rb db gh na n0 n f av ks row dn hp)(i:Nat)(x:Int):MRW w (W.setCell ⟨rb,i,none⟩ (.int .i64 x)) G qb g o N ls TA nt ct tl CA NC cC cl Q L cq mb pb wb rb db gh na n0 n f av ks (row.set i x) dn hp:=by
 obtain ⟨⟨g1,g2,g3,g4⟩,d⟩:=h.a.nb;have hK:Qbf G W (W.setCell ⟨rb,i,none⟩ (.int .i64 x)):=Qbf.set _ _ _ _ g3;obtain ⟨nw,w1,w2⟩:=h.a.wt;exact ⟨⟨h.a.qr.le (Qbf.msk hK),h.a.pl.kept hK,h.a.mq.set (fun e=>d.2.1 e.symm) _,h.a.mc.le (Qbf.msk hK),⟨nw,w1,w2.set (fun e=>d.2.2.2.1 e.symm) _⟩,h.a.rr.setI rfl,h.a.dd.far_ (fun e=>d.2.2.2.2.2 e.symm) _,fun b hb=>by simpa [World.setCell] using h.a.gl b hb,h.a.nb⟩,h.hh.set (.inr (.inr (.inr (.inl rfl)))) _,h.nx.put h.bs.2.2.1 h.bs.1 _,h.bs,h.nn⟩
end
end Go.Proofs.YteaoiabikjnkeaaGreatDoor
namespace Go.Proofs.YteaoiabikjnkeaaGreatDoor
open Go.RowKit Go.Sort Go.Shelf Go.Proofs.Tryz
attribute [local go_sem ↓] Go.wp_at_zero Go.wp_at_succ
abbrev HopD:=Nat×Nat×Nat
def hpc (x:HopD):List Value:=[.int .i64 (x.1:Int),.int .i64 (x.2.1:Int),.int .i64 (x.2.2:Int)]
noncomputable def hopV (N:Qap) (ls:List (List Int)) (av:List Int) (p:Nat×Nat):HopD:=(Qhu ls (toV N p.1) av,p.1,p.2)
end Go.Proofs.YteaoiabikjnkeaaGreatDoor
namespace Go.Proofs.YteaoiabikjnkeaaGreatDoor
open Go.RowKit Go.Proofs.Tryz
attribute [local go_sem ↓] Go.wp_at_zero Go.wp_at_succ
theorem Qee.ex {N:Qap} {ls:List (List Int)} {cl:List Int} (hok:Qaz N) (hP:Qbn N.vs.length ls) (h:Qee N ls cl) (j:Nat) (l:List Int) (a b:Nat) (y z:Tri) (hl:ls[j]?=some l) (hy:N.ar[a]?=some y) (hz:N.ar[b]?=some z) (h1:Qad l y.1≠Qad l y.2.1) (h2:Qad l z.1=Qad l y.2.1) (h3:Qad l z.2.1≠Qad l y.2.1):∃ v,Qgn N (Qel l (Qad l y.2.1)) a b v:=by
 obtain ⟨_,_,_,_,v,_,_,_,_,_,_,hv⟩:=h.ent hok hP hl hy hz h1 h2 h3;exact ⟨v,hv⟩
theorem Qpe {c v w:Int}(hc:0≤c)(hv:0≤v)(hw:0≤w)(h:1152921504606846976≤v∨1152921504606846976≤w):Qet (Qet c v) w=1152921504606846976:=by
 unfold Qet
 split <;> split <;> omega
theorem Qry {c v w:Int}(hw:0≤w) (h:c+(v+w)<1152921504606846976):Qet (Qet c v) w=c+(v+w):=by
 unfold Qet
 split <;> split <;> omega
end Go.Proofs.YteaoiabikjnkeaaGreatDoor
