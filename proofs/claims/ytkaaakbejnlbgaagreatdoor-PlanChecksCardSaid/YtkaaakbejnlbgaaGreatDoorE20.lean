/- Qbl of the proof: MnU, AqX, MnX, LsP, RfT, BfW. -/
import Derived.Test.YtkaaakbejnlbgaaGreatDoorE19
import Derived.Maps.Views
set_option maxHeartbeats 4000000
set_option maxRecDepth 20000
namespace Go.Proofs.YtkaaakbejnlbgaaGreatDoor
open Go.RowKit Go.Maps Go.Proofs.Tryz
attribute [local go_sem ↓] Go.wp_at_zero Go.wp_at_succ
theorem MpI.at_ {W W':World}{b n:Nat}{f:Nat→Option Nat}(h:MpI W b n f) (e:W'.heap[b]?=W.heap[b]?):MpI W' b n f:=by exact Kcp
def fK (ks:List Nat):Nat→Option Nat:=fun k=>if k∈ks then some 0 else none
def MpK (W:World)(b n:Nat)(ks:List Nat):Prop :=
 ∃ D:DataW Unit,W.ownsMap prog 3 (plainElem prog 3) b n D∧IsMap D∧(∀ k:Nat,k≤1000000000000→Maps.has D (.int .i64 k)=(fK ks k).isSome∧∀ v,fK ks k=some v→∀ z,D.atKey (.int .i64 k) z=.lit (.int .i64 v))∧Maps.size D=ks.length∧ks.Nodup
section
variable {W W':World} {b n:Nat} {ks:List Nat}
theorem MpK.mpI (h:MpK W b n ks):MpI W b n (fK ks):=by obtain ⟨D,h1,h2,h3,_⟩:=h;exact ⟨D,h1,h2,h3⟩
theorem MpK.nd (h:MpK W b n ks):ks.Nodup:=by obtain ⟨D,h1,h2,h3,_,h5⟩:=h;exact h5
theorem MpK.new' (w:World){g:Nat}(h:g=w.heap.size):MpK (w.alloc (.map #[] 0)) g 0 []:=by subst h;exact ⟨.map [],World.ownsMap_made _ _ _ _,isMap_empty,fun k _=>⟨rfl,fun v h=>by cases h⟩,rfl,List.nodup_nil⟩
theorem MpK.lt (h:MpK W b n ks):b<W.heap.size:=h.mpI.lt
theorem MpK.at_ (h:MpK W b n ks) (e:W'.heap[b]?=W.heap[b]?):MpK W' b n ks:=by exact Kcp
theorem MpK.grown {r:Option Nat}(h:MpK W b n ks)(hg:W.grownBy W' r)(hr:r≠some b):MpK W' b n ks:=h.at_ (hg.block b h.lt (fun e=>hr e.symm))
theorem MpK.below (h:MpK W b n ks)(hb:Bw W W'):MpK W' b n ks:=h.at_ (hb.block b h.lt)
theorem MpK.set {g i:Nat}(h:MpK W b n ks)(hg:g≠b)(v:Value):MpK (W.setCell ⟨g,i,none⟩ v) b n ks:=h.grown (Qac _ _ _ _) (fun e=>hg (by injection e))
end
section
variable {w:World} {ops:Array Oper} {rest:List Oper} {o:Oper} {a:Act} {Q:Exit→Act→World→Prop} {b n:Nat} {ks:List Nat}
theorem Rik (hg:o.guard=none)(m x v:Operand)(hop:o.op=Op.mapUpdate 226 m x v)(k:Nat) (hm:a.eval m=.map (some b)) (h:MpK w b n ks) (hn:n≤1000000000) (hx:a.eval x=.int .i64 k) (hv:a.eval v=.int .i64 0) (hk:k≤1000000000000)
 (hK:∀ w',MpK w' b (n+1) (if k∈ks then ks else k::ks)→w.grownBy w' (some b)→wpList prog ops Q rest (a.put o.dst undef) w'):wpList prog ops Q (o::rest) a w:=by
 obtain ⟨D,h1,h2,h3,h4,h5⟩:=h;have hkl:WideAt.IsKeyLit (Lit.int .i64 (k:Int)):=by simp [WideAt.IsKeyLit]
 refine wpList_mapUpdate_own w hg m x v 226 hop 3 3 Qjc underlying226 _ b n D hm h1 (by unfold maxLen;omega) _ _ _ hx hv (Qla hk) _ [] (plainElem_int underlying3 (WalkArith.wf_i64 Oo)) (fun w' g1 g2=>hK w' ⟨_,g1,h2.put _ _,fun q hq=>?_,?_,?_⟩ g2);{(have hf:fK (if k∈ks then ks else k::ks) q=if q=k then some 0 else fK ks q:=by{unfold fK;by_cases e:q=k;{subst e;by_cases e1:q∈ks <;> simp [e1]};{by_cases e1:k∈ks <;> simp [e1,e]}});rw [hf];by_cases e:q=k;{subst e;exact Kbz};{simp only [if_neg e];exact ⟨(has_put_other (Qql e) _).trans (h3 q hq).1,fun v e2 z=>(atKey_put_other (Qql e) _ _).trans ((h3 q hq).2 v e2 z)⟩}};{rw [size_put (h1.tidy Qjc),(h3 k hk).1];unfold fK;by_cases e1:k∈ks <;> simp [e1,h4]};{by_cases e1:k∈ks;{rw [if_pos e1];exact h5};{rw [if_neg e1];exact List.nodup_cons.2 ⟨e1,h5⟩}}
theorem Rij (hg:o.guard=none)(m:Operand) (hop:o.op=Op.call { callee:=Callee.builtin Builtin.len,args:=#[m],argTypes:=#[226] }) (hm:a.eval m=.map (some b)) (h:MpK w b n ks)
 (hK:wpList prog ops Q rest (a.put o.dst (.int .i64 (ks.length:Nat))) w):wpList prog ops Q (o::rest) a w:=by obtain ⟨D,h1,h2,h3,h4,h5⟩:=h;refine wpList_len_own w hg m 226 hop 3 3 underlying226 _ b n D hm h1 ?_;rw [h4];exact hK
end
def PlnK (W:World)(G:Nat→Prop)(pb:Nat) (ls:Lz) (av:Iz):Prop:=∀ i l,ls[i]?=some l→∃ b n f,(G pb∧G b)∧PlnL W pb l av i b n f
section
variable {W W':World} {G G':Nat→Prop} {pb:Nat} {ls:Lz} {av:Iz}
theorem PlnK.r (h:PlnK W G pb ls av):PlnR W pb ls av:=fun i l hl=>by obtain ⟨b,n,f,_,h1⟩:=h i l hl;exact ⟨b,n,f,h1⟩
theorem PlnK.kept (h:PlnK W G pb ls av)(hk:Qaz G W W'):PlnK W' G pb ls av:=fun i l hl=>by obtain ⟨b,n,f,hG,h1,h2,h3⟩:=h i l hl;exact ⟨b,n,f,hG,(Qat.1 (Qaz.msk hk _ _ (Qgo h1 hG.1))).2,h2.at_ (hk b hG.2 h2.lt),h3⟩
theorem PlnK.mono (h:PlnK W G pb ls av)(hm:∀ b,G b→G' b):PlnK W G' pb ls av:=fun i l hl=>by obtain ⟨b,n,f,hG,h1⟩:=h i l hl;exact ⟨b,n,f,⟨hm _ hG.1,hm _ hG.2⟩,h1⟩
end
theorem Nxw.aft {mb:Nat}{w W W':World}{H:Nat→Prop}(h:Nxw mb w W)(ha:Aft H W W')(hH:∀ b,b<w.heap.size→H b)(hm:mb<w.heap.size):Nxw mb w W' :=
 ⟨fun b hb hl=>(ha.kept b (hH b hl) (Yu hl h.size)).trans (h.kept b hb hl),Yx h.size ha.size,fun B hB=>(h.bel B hB).trans (ha.bel B (fun b hb=>hH b Oo))⟩
theorem Nxw.put {mb g i:Nat}{w W:World}(h:Nxw mb w W)(hg:w.heap.size≤g)(hm:mb<w.heap.size)(v:Value):Nxw mb w (W.setCell ⟨g,i,none⟩ v) :=
 h.aft (H:=fun b=>b<w.heap.size) (Aft.set (Aft.refl _ _) Oo v) (fun _ hb=>hb) hm
structure MRA (W:World) (G:Nat→Prop) (qb g o:Nat) (N:Qak) (ls:Lz) (TA:Oz) (nt ct:Nat) (tl:Iz) (CA:Oz) (NC cC:Nat) (cl:Iz) (Q:Oz) (L cq mb pb wb rb db n:Nat) (f:Nat→Nat→Option Value) (av:Iz) (ks:List Nat) (row:Iz) (dn:List Bool):Prop where
 qr:MR (msk W G) qb g o N ls TA nt ct tl CA NC cC cl Q L cq mb
 pl:PlnK W G pb ls av
 mq:MpQ W mb n f
 mc:MpC W G N.ar ls f
 wt:∃ nw,nw≤1000000∧MpK W wb nw ks
 rr:Blk W rb 2 (Qbr row)
 dd:Blk W db 4 (Qdy dn)
 gl:∀ b,G b→b<W.heap.size
 nb:(¬G mb∧¬G wb∧¬G rb∧¬G db)∧mb≠wb∧mb≠rb∧mb≠db∧wb≠rb∧wb≠db∧rb≠db
structure MRW (w W:World) (G:Nat→Prop) (qb g o:Nat) (N:Qak) (ls:Lz) (TA:Oz) (nt ct:Nat) (tl:Iz) (CA:Oz) (NC cC:Nat) (cl:Iz) (Q:Oz) (L cq mb pb wb rb db gh na n0 n:Nat) (f:Nat→Nat→Option Value) (av:Iz) (ks:List Nat) (row:Iz) (dn:List Bool) (hp:Nat→Option Int):Prop where
 a:MRA W G qb g o N ls TA nt ct tl CA NC cC cl Q L cq mb pb wb rb db n f av ks row dn
 hh:Qcx W (fun b=>b<w.heap.size∨G b∨b=wb∨b=rb∨b=db) gh na hp
 nx:Nxw mb w W
 bs:mb<w.heap.size∧w.heap.size≤wb∧w.heap.size≤rb∧w.heap.size≤db
 nn:n≤n0+dn.countP (fun b=>b)
section
variable {w W W':World} {G:Nat→Prop} {qb g o:Nat} {N:Qak} {ls:Lz} {TA:Oz} {nt ct:Nat} {tl:Iz} {CA:Oz} {NC cC:Nat} {cl:Iz} {Q:Oz} {L cq mb pb wb rb db gh na n0 n:Nat} {f:Nat→Nat→Option Value} {av:Iz} {ks:List Nat} {row:Iz} {dn:List Bool} {hp:Nat→Option Int}
theorem MRA.kept (h:MRA W G qb g o N ls TA nt ct tl CA NC cC cl Q L cq mb pb wb rb db n f av ks row dn) (hk:Qaz (fun b=>G b∨b=mb∨b=wb∨b=rb∨b=db) W W') (hz:W.heap.size≤W'.heap.size):MRA W' G qb g o N ls TA nt ct tl CA NC cC cl Q L cq mb pb wb rb db n f av ks row dn:=by have hK:=hk.mono (G':=G) (fun _ hb=>.inl hb);have hle:Le (msk W G) (msk W' G):=Qaz.msk hK;obtain ⟨nw,w1,w2⟩:=h.wt;exact ⟨h.qr.le hle,h.pl.kept hK,h.mq.at_ (hk mb (.inr (.inl rfl)) h.mq.lt),h.mc.le hle,⟨nw,w1,w2.at_ (hk wb (.inr (.inr (.inl rfl))) w2.lt)⟩,(hk rb (.inr (.inr (.inr (.inl rfl)))) h.rr.lt).trans h.rr,(hk db (.inr (.inr (.inr (.inr rfl)))) h.dd.lt).trans h.dd,fun b hb=>Yu (h.gl b hb) hz,h.nb⟩
theorem MRW.below (h:MRW w W G qb g o N ls TA nt ct tl CA NC cC cl Q L cq mb pb wb rb db gh na n0 n f av ks row dn hp)(hb:Bw W W'):MRW w W' G qb g o N ls TA nt ct tl CA NC cC cl Q L cq mb pb wb rb db gh na n0 n f av ks row dn hp :=
 ⟨h.a.kept (Qaz.below hb) hb.size,h.hh.more hb (fun b hb'=>⟨Yu (h.hh.lt b hb') hb.size,.inl hb'⟩),h.nx.trans (Nxw.below hb h.a.mq.lt),h.bs,h.nn⟩
theorem MRW.nxt {n':Nat}{f':Nat→Nat→Option Value}(h:MRW w W G qb g o N ls TA nt ct tl CA NC cC cl Q L cq mb pb wb rb db gh na n0 n f av ks row dn hp)(hx:Nxw mb W W')(hm:MpQ W' mb n' f') (hc:MpC W' (G2 G W W') N.ar ls f') (hn:n'≤n0+dn.countP (fun b=>b)):MRW w W' (G2 G W W') qb g o N ls TA nt ct tl CA NC cC cl Q L cq mb pb wb rb db gh na n0 n' f' av ks row dn hp:=by
 have hng:∀ b,b<W.heap.size→¬G b→¬G2 G W W' b:=fun b h1 h2 h3=>h3.elim h2 (fun h4=>by omega)
 have hs:=hx.size;obtain ⟨⟨g1,g2,g3,g4⟩,d⟩:=h.a.nb;have hK:Qaz G W W':=hx.kept.mono (fun b hb e=>g1 (e▸hb));obtain ⟨nw,w1,w2⟩:=h.a.wt;refine ⟨⟨h.a.qr.le (G2.le hx g1),(h.a.pl.kept hK).mono (fun _ hb=>.inl hb),hm,hc,⟨nw,w1,w2.at_ (hx.kept wb (fun e=>d.1 e.symm) w2.lt)⟩,h.a.rr.grown hx.gb (fun e=>d.2.1 (by injection e)),h.a.dd.grown hx.gb (fun e=>d.2.2.1 (by injection e)),fun b hb=>?_,⟨hng _ h.a.mq.lt g1,hng _ w2.lt g2,hng _ h.a.rr.lt g3,hng _ h.a.dd.lt g4⟩,d⟩,h.hh.grown hx.gb (.inl h.bs.1) (fun b hb=>?_),h.nx.trans hx,h.bs,hn⟩;{(rcases hb with h1|h1);{have:=h.a.gl b h1;omega};{exact h1.2}};{have hw:=w2.lt;have hr:=h.a.rr.lt;have hd:=h.a.dd.lt;have hsz:=h.nx.size;(rcases hb with h1|(h1|h1)|rfl|rfl|rfl);{exact ⟨Oo,.inl (.inl h1)⟩};{have:=h.a.gl b h1;exact ⟨Oo,.inl (.inr (.inl h1))⟩};{exact ⟨h1.2,.inr h1.1⟩};{exact ⟨Oo,.inl (.inr (.inr (.inl rfl)))⟩};{exact ⟨Oo,.inl (.inr (.inr (.inr (.inl rfl))))⟩};{exact ⟨Oo,.inl (.inr (.inr (.inr (.inr rfl))))⟩}}
theorem MRW.heap {hp':Nat→Option Int}(h:MRW w W G qb g o N ls TA nt ct tl CA NC cC cl Q L cq mb pb wb rb db gh na n0 n f av ks row dn hp) (hh:Qcx W' (fun b=>b<w.heap.size∨G b∨b=wb∨b=rb∨b=db) gh na hp') (ha:Aft (fun b=>b<w.heap.size∨G b∨b=wb∨b=rb∨b=db) W W'):MRW w W' G qb g o N ls TA nt ct tl CA NC cC cl Q L cq mb pb wb rb db gh na n0 n f av ks row dn hp' :=
 ⟨h.a.kept (ha.kept.mono (fun b hb=>by
  rcases hb with h1|rfl|h1
  · exact .inr (.inl h1)
  · exact .inl h.bs.1
  · exact .inr (.inr h1))) ha.size,hh,h.nx.aft ha (fun _ hb=>.inl hb) h.bs.1,h.bs,h.nn⟩
theorem MRW.done (h:MRW w W G qb g o N ls TA nt ct tl CA NC cC cl Q L cq mb pb wb rb db gh na n0 n f av ks row dn hp)(p:Nat):MRW w (W.setCell ⟨db,p,none⟩ (.bool true)) G qb g o N ls TA nt ct tl CA NC cC cl Q L cq mb pb wb rb db gh na n0 n f av ks row (dn.set p true) hp:=by obtain ⟨⟨g1,g2,g3,g4⟩,d⟩:=h.a.nb;have hK:Qaz G W (W.setCell ⟨db,p,none⟩ (.bool true)):=Qaz.set _ _ _ _ g4;obtain ⟨nw,w1,w2⟩:=h.a.wt;exact ⟨⟨h.a.qr.le (Qaz.msk hK),h.a.pl.kept hK,h.a.mq.set (fun e=>d.2.2.1 e.symm) _,h.a.mc.le (Qaz.msk hK),⟨nw,w1,w2.set (fun e=>d.2.2.2.2.1 e.symm) _⟩,h.a.rr.far_ d.2.2.2.2.2 _,h.a.dd.setB rfl,fun b hb=>by simpa [World.setCell] using h.a.gl b hb,h.a.nb⟩,h.hh.set (.inr (.inr (.inr (.inr rfl)))) _,h.nx.put h.bs.2.2.2 h.bs.1 _,h.bs,by have:=Qnl dn p;have:=h.nn;omega⟩
theorem MRW.row_ (h:MRW w W G qb g o N ls TA nt ct tl CA NC cC cl Q L cq mb pb wb rb db gh na n0 n f av ks row dn hp)(i:Nat)(x:Int):MRW w (W.setCell ⟨rb,i,none⟩ (.int .i64 x)) G qb g o N ls TA nt ct tl CA NC cC cl Q L cq mb pb wb rb db gh na n0 n f av ks (row.set i x) dn hp:=by obtain ⟨⟨g1,g2,g3,g4⟩,d⟩:=h.a.nb;have hK:Qaz G W (W.setCell ⟨rb,i,none⟩ (.int .i64 x)):=Qaz.set _ _ _ _ g3;obtain ⟨nw,w1,w2⟩:=h.a.wt;exact ⟨⟨h.a.qr.le (Qaz.msk hK),h.a.pl.kept hK,h.a.mq.set (fun e=>d.2.1 e.symm) _,h.a.mc.le (Qaz.msk hK),⟨nw,w1,w2.set (fun e=>d.2.2.2.1 e.symm) _⟩,h.a.rr.setI rfl,h.a.dd.far_ (fun e=>d.2.2.2.2.2 e.symm) _,fun b hb=>by simpa [World.setCell] using h.a.gl b hb,h.a.nb⟩,h.hh.set (.inr (.inr (.inr (.inl rfl)))) _,h.nx.put h.bs.2.2.1 h.bs.1 _,h.bs,h.nn⟩
end
end Go.Proofs.YtkaaakbejnlbgaaGreatDoor
namespace Go.Proofs.YtkaaakbejnlbgaaGreatDoor
open Go.RowKit Go.Proofs.Tryz
attribute [local go_sem ↓] Go.wp_at_zero Go.wp_at_succ
theorem Qes.ex {N:Qak} {ls:Lz} {cl:Iz} (hok:Qar N) (hP:Qbt N.vs.length ls) (h:Qes N ls cl) (j:Nat) (l:Iz) (a b:Nat) (y z:Tri) (hl:ls[j]?=some l) (hy:N.ar[a]?=some y) (hz:N.ar[b]?=some z) (h1:Qad l y.1≠Qad l y.2.1) (h2:Qad l z.1=Qad l y.2.1) (h3:Qad l z.2.1≠Qad l y.2.1):∃ v,Qhc N (Qgd l (Qad l y.2.1)) a b v:=by obtain ⟨_,_,_,_,v,_,_,_,_,_,_,hv⟩:=h.ent hok hP hl hy hz h1 h2 h3;exact ⟨v,hv⟩
theorem Qto {c v w:Int}(hc:0≤c)(hv:0≤v)(hw:0≤w)(h:1152921504606846976≤v∨1152921504606846976≤w):Qdg (Qdg c v) w=1152921504606846976:=by unfold Qdg;split <;> split <;> omega
theorem Qzb {c v w:Int}(hw:0≤w) (h:c+(v+w)<1152921504606846976):Qdg (Qdg c v) w=c+(v+w):=by unfold Qdg;split <;> split <;> omega
open Go.Maps
theorem mNext_ok (w:World)(qb g o:Nat)(N:Qak) (ls:Lz) (TA:Oz) (nt ct:Nat) (tl:Iz) (CA:Oz) (NC cC:Nat) (cl:Iz) (Q:Oz) (L cq mb a:Nat) (y:Tri) (av:Iz) (G:Nat→Prop) (n:Nat) (f:Nat→Nat→Option Value) (h:MR (msk w G) qb g o N ls TA nt ct tl CA NC cC cl Q L cq mb) (hGm:¬G mb)
 (hm:MpQ w mb n f) (hn:n≤2000000) (hmc:MpC w G N.ar ls f) (hok:Qar N) (hP:Qbt N.vs.length ls) (hA:Qes N ls cl) (hcc:NC≤cC∧cC≤9223372036854775807) (hSm:Qcy (Qah N.ar ls)≤1000000000) (hy:N.ar[a]?=some y) (hg:Rau N ls av a) :
 Calls prog 133 #[.pointer (some ⟨qb,0,none⟩),.int .i64 ((Qlw ls (toV N a) av:Nat):Int),.int .i64 a] w (NxtR w G mb n N ls av a):=by
 cases hJ:Qlw ls (toV N a) av with
 | succ j=>exact Rgn w qb g o N ls TA nt ct tl CA NC cC cl Q L cq mb a (j+1) j y av G n f h hGm hm hn hmc hok hP hA hcc hSm hy hg hJ rfl
 | zero =>refine (Rgm w qb g o N ls TA nt ct tl CA NC cC cl Q L cq mb a y (h.le (Qan _ _)) hok hy).mono ?_;rintro e w' ⟨O,C,nO,cO,cC',rfl,h1,h2,h3,hb⟩;have hx:Nxw mb w w':=Nxw.below hb hm.lt;have hle:Le (msk w' (fun b=>w.heap.size≤b∧b<w'.heap.size)) (msk w' (G2 G w w')):=Qbj (fun _ hb=>.inr hb);exact ⟨O,C,nO,cO,cC',n,_,_,f,rfl,Rha hok hy hJ,h1.le hle,h2.le hle,hm.below hb,Oo,hmc.le (G2.le hx hGm),hx,h3⟩
def MRowR (w:World)(G:Nat→Prop)(mb n nt:Nat)(N:Qak) (ls:Lz) (av:Iz) (s:Nat) (tl:Iz) (e:Ending) (w':World):Prop :=
 ∃ (rb n':Nat) (f':Nat→Nat→Option Value) (row:Iz),e=.returned (.slice (some ⟨rb,0,none⟩) nt nt)∧RowQ N ls av s tl row∧Blk w' rb 2 (Qbr row)∧w.heap.size≤rb∧MpQ w' mb n' f'∧n'≤n+16384∧MpC w' (G2 G w w') N.ar ls f'∧Nxw mb w w'
def Rhp (nt i:Nat):Iz:=(List.replicate nt (1152921504606846976:Int)).take i ++(List.replicate nt (0:Int)).drop i
theorem Rhq (nt:Nat):Rhp nt 0=List.replicate nt 0:=by simp [Rhp]
theorem rowF_all (nt:Nat):Rhp nt nt=List.replicate nt 1152921504606846976:=by simp [Rhp]
theorem rowF_get {nt i:Nat}(h:i<nt):∃ v,(Rhp nt i)[i]?=some v:=by refine ⟨_,Zg ?_⟩;simp only [Rhp,Yp,Yw,List.length_drop,List.length_replicate];omega
theorem rowF_set {nt i:Nat}(h:i<nt):(Rhp nt i).set i 1152921504606846976=Rhp nt (i+1) :=
 Qkp (by rw [List.getElem?_replicate,if_pos h]) Sm
def KeyM (tl:Iz)(i:Nat)(ks:List Nat):Prop:=∀ k:Nat,k∈ks↔(k:Int)∈tl.take i
def insK (k:Nat)(ks:List Nat):List Nat:=if k∈ks then ks else k::ks
theorem insK_len {k n:Nat}{ks:List Nat}(h:ks.length≤n):(insK k ks).length≤n+1:=by unfold insK;split;{omega};{simp only [List.length_cons];omega}
theorem Rii {w:World}{ops:Array Oper}{rest:List Oper}{o:Oper}{a:Act}{Q:Exit→Act→World→Prop}{b n:Nat}{ks:List Nat}(hg:o.guard=none)(m x v:Operand)(hop:o.op=Op.mapUpdate 226 m x v)(k:Nat) (hm:a.eval m=.map (some b)) (h:MpK w b n ks) (hn:n≤1000000000) (hx:a.eval x=.int .i64 k) (hv:a.eval v=.int .i64 0) (hk:k≤1000000000000)
 (hK:∀ w',MpK w' b (n+1) (insK k ks)→w.grownBy w' (some b)→wpList prog ops Q rest (a.put o.dst undef) w'):wpList prog ops Q (o::rest) a w:=Rik hg m x v hop k hm h hn hx hv hk hK
theorem KeyM.succ {tl:Iz}{i k:Nat}{ks:List Nat}(h:KeyM tl i ks) (ht:tl[i]?=some (k:Int)):KeyM tl (i+1) (insK k ks):=fun q=>by unfold insK;rw [List.take_add_one,ht];have e1:(q:Int)∈tl.take i ++(some (k:Int)).toList↔(q:Int)∈tl.take i∨q=k:=by{rw [List.mem_append];simp only [Option.toList_some,List.mem_singleton];exact ⟨fun h=>h.elim .inl (fun h=>.inr (Int.ofNat.inj h)),fun h=>h.elim .inl (fun h=>.inr (by rw [h]))⟩};rw [e1,←h q];by_cases e:k∈ks;{rw [if_pos e];exact ⟨.inl,fun h=>h.elim id (fun e2=>e2▸e)⟩};{rw [if_neg e,List.mem_cons];exact or_comm}
theorem mRow_ok (w:World)(qb g o:Nat)(N:Qak) (ls:Lz) (TA:Oz) (nt ct:Nat) (tl:Iz) (CA:Oz) (NC cC:Nat) (cl:Iz) (Q:Oz) (L cq mb s:Nat) (xs:Tri) (G:Nat→Prop) (n0:Nat) (f0:Nat→Nat→Option Value) (h:MR (msk w G) qb g o N ls TA nt ct tl CA NC cC cl Q L cq mb) (hGm:¬G mb) (hGl:∀ b,G b→b<w.heap.size)
 (hm:MpQ w mb n0 f0) (hn:n0≤1100000) (hmc:MpC w G N.ar ls f0) (hok:Qar N) (hP:Qbt N.vs.length ls) (hA:Qes N ls cl) (hcc:NC≤cC∧cC≤9223372036854775807) (hSm:Qcy (Qah N.ar ls)≤1000000000) (hxs:N.ar[s]?=some xs) (hts:∀ (i:Nat) (t:Int),tl[i]?=some t→∃ (a:Nat) (y:Tri),t=(a:Int)∧N.ar[a]?=some y) (hnt:nt≤1000000) :
 Calls prog 78 #[.pointer (some ⟨qb,0,none⟩),.int .i64 s] w (MRowR w G mb n0 nt N ls (avM N s tl nt) s tl):=by
 have hE:=hA.ex hok hP;have HAV:=Zh (show toV N s∈avM N s tl nt by unfold avM;simp);have HE:=Zh hE;have HOK:=Zh hok;have HP:=Zh hP;obtain ⟨na,hna⟩:=Zx N.ar.length;have HNA:=Zh hna;have hna4:na≤16384:=by rw [hna];exact hok.la
 have hsn:s<na:=by rw [hna];exact (Zs hxs).1
 have HXS:=Zh hxs;have HTS:=Zh hts;have HLT:=Zh (show tl.length=nt from h.ts.1);have HGL:=Zh (show (∀ b,G b→b<w.heap.size)∧¬G mb from ⟨hGl,hGm⟩);have HM:=Zh hm;have HMC:=Zh hmc;have HH:=Zh h;have HQ:=Zh (fun V (hV:Below w.heap.size w V)=>(h.le (Qan _ _)).below hV);have HPN:=Zh (fun V (hV:Below w.heap.size w V)=>Rgo V qb g o N ls TA nt ct tl CA NC cC cl Q L cq mb s xs ((h.le (Qan _ _)).below hV) hok hP hxs hts hnt)
 have HLV:=Zh (show ∀ V,MR V qb g o N ls TA nt ct tl CA NC cC cl Q L cq mb→∀ pb,PlnR V pb ls (avM N s tl nt)→∀ (p:Nat) (x:Tri),N.ar[p]?=some x→Calls prog 134 #[.pointer (some ⟨qb,0,none⟩),.slice (some ⟨pb,0,none⟩) L L,.int .i64 x.2.1] V fun e w'=>e=.returned (.int .i64 ((Qlw ls (toV N p) (avM N s tl nt):Nat):Int))∧Bw V w' from fun V hV pb hp p x hx=>by
  obtain ⟨u0,vs,es1,es2,hus,hvs⟩:=Qjp hok hx;rw [(Qbw hx).1,es2];exact Rgl V qb g o N ls TA nt ct tl CA NC cC cl Q L cq mb pb _ vs hV hP hp hvs (by have:=hok.lv;omega))
 have HNX:=Zh (fun (V:World) (G:Nat→Prop) (n a:Nat) (f:Nat→Nat→Option Value) (y:Tri) (hV:MR (msk V G) qb g o N ls TA nt ct tl CA NC cC cl Q L cq mb) (hGm:¬G mb) (hm:MpQ V mb n f) (hn:n≤2000000) (hmc:MpC V G N.ar ls f) (hy:N.ar[a]?=some y) (hg:Rau N ls (avM N s tl nt) a)=>mNext_ok V qb g o N ls TA nt ct tl CA NC cC cl Q L cq mb a y (avM N s tl nt) G n f hV hGm hm hn hmc hok hP hA hcc hSm hy hg);have HWE:=Zh (fun (V:World) (hV:Qfg V g N) (b:Nat) (y:Tri) (hy:N.ar[b]?=some y)=>Qft g b N y V hV hy);have HTO:=Zh (fun (V:World) (hV:Qfg V g N) (b:Nat) (y:Tri) (hy:N.ar[b]?=some y)=>Qjx g b N y V hV hy);have HGA:=Zh (show ∀ V,Qfg V g N→Calls prog 39 #[.pointer (some ⟨g,0,none⟩)] V fun e w'=>e=.returned (.int .i64 (na:Int))∧V=w' from fun V hV=>by rw [hna];exact Qdj g N V hV);have hw9:=(Qbw hxs).2.2;obtain ⟨z0,hz0⟩:∃ z,z=xs.2.2:=⟨_,rfl⟩;have hzb:=Qei (hok.arcs xs (Zm hxs)).w;have HZS:=Zh (show wV N s=z0 by rw [hw9,hz0]);have HZX:=Zh hz0;rw [←hz0] at hzb;have q3:=(h.le (Qan _ _)).q3;have ql:=Qaj q3;simp only at ql;have hmk:=Qde nt Oo;have hmb:=Qki na Oo;have hmm:=@run_makeMap prog;obtain ⟨av,hav⟩:=Zx (avM N s tl nt);rw [←hav] at HAV HPN HLV HNX ⊢;clear h hav hGm hGl hm hmc hok hP hA hcc hSm hxs hts hna hE hw9 hz0;go_enter func78,ntmps78
 go_wp2_with fail
 (refine Qai ?_;intro w1 hw1);have HB1:=Zh (show Below w.heap.size w w1 by rw [hw1];exact Qag);have HR1:=Zh (show Blk w1 w.heap.size 2 (Qbr (Rhp nt 0)) by rw [hw1,Rhq,←Qbx];exact Qbi);have HM1:=Zh (show MpK w1 (w.heap.size+1) 0 [] by rw [hw1];exact MpK.new' _ (by rw [World.size_alloc]));clear hw1 q3 ql hmk hmm;obtain ⟨rb,hrb⟩:=Zx w.heap.size;obtain ⟨wb,hwb⟩:=Zx (rb+1);have HRB:=Zh (show w.heap.size=rb∧wb=rb+1 from ⟨hrb.symm,hwb⟩);rw [←hrb] at HR1 HM1 ⊢;rw [←hwb] at HM1 ⊢;clear hrb hwb;go_loopw [37] (fun q W=>∃ (i nw:Nat) (ks:List Nat),i≤nt∧q=.int .i64 i∧Below w.heap.size w W∧Blk W rb 2 (Qbr (Rhp nt i))∧MpK W wb nw ks∧(nw≤i∧ks.length≤i)∧KeyM tl i ks) (fun q _=>nt-(intOf q).toNat)
 case atStart=>exact ⟨0,0,[],Nat.zero_le _,rfl,HB1.o,HR1.o,HM1.o,⟨Zn _,Zn _⟩,fun q=>by simp⟩
 case round =>
  clear HB1 HR1 HM1;obtain ⟨i,nw,ks,hi,rfl,hb,hr,hm,hnw,hk⟩:=hrel;have HB:=Zh hb;have HR:=Zh hr;have HMK:=Zh hm;have HK:=Zh hk;by_cases hlt:i<nt
  {obtain ⟨tb,to,t,hTA,ht,ctt⟩:=(HQ.o wr hb).ts.at_ hlt;(obtain ⟨a,y,rfl,hy⟩:=HTS.o i t ht;have han:a<16384:=by have:=(Zs hy).1;have:=HNA.o;omega);(obtain ⟨ov,hov⟩:=rowF_get hlt;have r0:=hr.cellI hov;have rz:=hr.frozen i;have i1:(i:Int)<nt:=Oo);(have i2:0≤(i:Int):=Oo);(have hrw:rb≠wb:=by have:=HRB.o.2;omega);have hmp:MpK (wr.setCell ⟨rb,i,none⟩ (.int .i64 1152921504606846976)) wb nw ks:=hm.set hrw _;have HRX:=Zh (show Blk (wr.setCell ⟨rb,i,none⟩ (.int .i64 1152921504606846976)) rb 2 (Qbr (Rhp nt (i+1))) by rw [←rowF_set hlt];exact hr.setI rfl);have HBX:=Zh (show Below w.heap.size w (wr.setCell ⟨rb,i,none⟩ (.int .i64 1152921504606846976)) from hb.setCell (by simp only;have:=HRB.o.1;omega) _);have HKX:=Zh (hk.succ ht);subst hTA;clear hb hr hm hk hov ht hy;(go_wp2_with (at_mapUpdate;with_reducible refine Rii rfl _ _ _ rfl a rfl hmp Oo rfl rfl Oo ?_));intro w7 hm7 hg7;have HM7:=Zh hm7;have HR7:=Zh (HRX.o.grown hg7 (fun e=>hrw (by injection e with e;exact e.symm)));have HB7:=Zh (Qri HBX.o hg7 (by have:=HRB.o;omega) HBX.o.size);clear hm7 hg7 hmp r0 rz ctt;(go_wp2_with fail);go_roundw;(case rel=>exact ⟨i+1,nw+1,_,Oo,by go_num,HB7.o,HR7.o,HM7.o,⟨Oo,insK_len hnw.2⟩,HKX.o⟩);case measure=>simp [intOf];omega};obtain rfl:nt=i:=Oo
  have i1:¬(nt:Int)<nt:=Oo
  have hq:=HQ.o wr hb;have q0:=hq.q0;have HW0:=Zh (show Calls prog 128 #[.pointer (some ⟨g,0,none⟩),.int .i64 s] wr fun e w'=>e=.returned (.int .i64 z0)∧wr=w' from by rw [HZX.o];exact HWE.o _ hq.gr s xs HXS.o);rw [rowF_all] at HR
  have HKA:=Zh (show ∀ k:Nat,(k∈ks↔(k:Int)∈tl)∧(k∈ks→k≤16384) from fun k=>by
   have h1:=HK.o k;rw [Ye (by rw [HLT.o];exact Zn _)] at h1;refine ⟨h1,fun h=>?_⟩;obtain ⟨j,hj⟩:=Yr (h1.1 h);obtain ⟨a,y,e,hy⟩:=HTS.o j _ hj;have:=(Zs hy).1;have:=HNA.o;omega)
  have HNW:=Zh (show nw≤1000000 by omega);have HKN:=Zh (show ks.length≤1000000 by omega);have HPL:=Zh (HPN.o wr hb);clear hb hr hm hk hq hi hnw HK HPN;go_wp2_with fail
  with_reducible refine HW0.o.mono ?_
  rintro r w' ⟨rfl,rfl⟩;clear HW0 q0;by_cases hinf:z0=1152921504606846976;{(have e1:(1152921504606846976:Int)≤z0:=Oo);(go_wp2_with fail);refine bodyPost_ret (v:=.slice (some ⟨rb,0,none⟩) nt nt) (by simp [results,results78,go_sem]) rfl ?_;refine ⟨rb,n0,f0,Qmi tl (fun _=>none),rfl,RowQ.none tl (by rw [HZS.o];exact hinf),by rw [Qvk,HLT.o];exact HR.o,by rw [HRB.o.1];exact Zn _,HM.o.below HB.o,Oo,HMC.o.le ((Qaz.msk (G:=G) (Qaz.below HB.o)).trans (Qbj (fun _ hb=>.inl hb))),Nxw.below HB.o HM.o.lt⟩};have e1:¬(1152921504606846976:Int)≤z0:=Oo
  have HNI:=Zh (show wV N s≠1152921504606846976 by rw [HZS.o];exact hinf);clear hinf hzb;go_wp2_with fail
  with_reducible refine HPL.o.mono ?_
  rintro r w3 ⟨⟨pb,rfl,hpg,hpb,hps⟩,hb3⟩;obtain ⟨G3,hG3⟩:∃ G3:Nat→Prop,G3=fun b=>G b∨(wr.heap.size≤b∧b<w3.heap.size):=⟨_,rfl⟩
  have hB3:=Zb HB.o hb3;have hsz:=HB.o.size;have hle3:Le (msk w G) (msk w3 G3):=(Qaz.msk (G:=G) (Qaz.below hB3)).trans (Qbj (fun b hb=>by rw [hG3];exact .inl hb));have HB3:=Zh hB3;have HQ3:=Zh (HH.o.le hle3);have HC3:=Zh (HMC.o.le hle3)
  have HP3:=Zh (show PlnK w3 G3 pb ls av from fun j l hl=>by
   obtain ⟨b,n,f,h1,h2,h3⟩:=hpg j l hl;exact ⟨b,n,f,by rw [hG3];exact ⟨.inr ⟨Oo,Oo⟩,.inr ⟨Oo,h3⟩⟩,h1⟩)
  have HG3:=Zh (show (∀ b,G3 b→b<w3.heap.size)∧∀ b,G3 b→b<w.heap.size∨wr.heap.size≤b from by
   rw [hG3];refine ⟨fun b hb=>hb.elim (fun h=>by have:=HGL.o.1 b h;have:=hB3.size;omega) (fun h=>h.2),fun b hb=>hb.elim (fun h=>.inl (HGL.o.1 b h)) (fun h=>.inr h.1)⟩)
  have HS3:=Zh (show ∀ b,G3 b→G b∨w.heap.size≤b from fun b hb=>by
   rw [hG3] at hb;exact hb.elim .inl (fun h=>.inr Oo))
  have HGM:=Zh (show ¬G3 mb from by
   rw [hG3];exact fun h=>h.elim HGL.o.2 (fun h=>by have:=HM.o.lt;omega))
  have HR3:=Zh (HR.o.below hb3 HR.o.lt);have HK3:=Zh (HMK.o.below hb3);have HM3:=Zh (HM.o.below hB3);have HML:=Zh HM.o.lt;have HRL:=Zh (show rb<wr.heap.size∧wb<wr.heap.size∧w3.heap.size=w3.heap.size∧wr.heap.size≤w3.heap.size from ⟨HR.o.lt,HMK.o.lt,rfl,hb3.size⟩);have q0:=(HQ3.o.le (Qan _ _)).q0;have ql:=Qaj q0;simp only at ql;clear hpg hpb hps hb3 hB3 hsz hle3 hG3 HPL HR HMK HB HQ HMC HH HM;go_wp2_with fail
  with_reducible refine (HGA.o w3 (HQ3.o.gr.le (Qan _ _))).mono ?_
  rintro r w' ⟨rfl,rfl⟩;clear q0;go_wp2_with fail
  (refine Qab ?_;intro w4 hw4);have hb4:Below w3.heap.size w3 w4:=by rw [hw4];exact Qag
  obtain ⟨db,hdb⟩:=Zx w3.heap.size;have D4:Blk w4 db 4 (Qdy (List.replicate na false)):=by rw [hw4,hdb,←Qil];exact Qbi
  have HZ4:=Zh (show w4.heap.size=db+1 by rw [hw4,hdb];simp);have HHN:=Zh (Qrw w4 na hna4);have HD4:=Zh D4;have HB4:=Zh hb4;have HDB:=Zh hdb;rw [←hdb];clear hw4 D4 hb4 hdb hmb ql;with_reducible refine HHN.o.mono ?_
  rintro r w5 ⟨gh,rfl,hh,hb5⟩
  have HW5:=Zh (show MRW w w5 G3 qb g o N ls TA nt ct tl CA NC cC cl Q L cq mb pb wb rb db gh na n0 n0 f0 av ks (Qmi tl (fun _=>none)) (List.replicate na false) (fun _=>none) from by
   have hb35:=Zb HB4.o hb5;have hk:Qaz G3 w3 w5:=Qaz.below hb35;have hle:Le (msk w3 G3) (msk w5 G3):=Qaz.msk hk;have g0:=HM3.o.lt;have g1:=HRL.o;have g2:=HDB.o;have g3:=HZ4.o;have g4:=HRB.o;have g5:=HB3.o.size;have g6:=hb35.size;have g7:=HML.o;refine ⟨⟨HQ3.o.le hle,HP3.o.kept hk,HM3.o.below hb35,HC3.o.le hle,⟨nw,HNW.o,HK3.o.below hb35⟩,by rw [Qvk,HLT.o];exact HR3.o.below hb35 HR3.o.lt,HD4.o.below hb5 HD4.o.lt,fun b hb=>by have:=HG3.o.1 b hb;omega,⟨HGM.o,fun h=>?_,fun h=>?_,fun h=>?_⟩,Oo,Oo,Oo,Oo,Oo,Oo⟩,hh.less (fun b hb=>?_),Nxw.below (Zb HB3.o hb35) g7,⟨g7,Oo,Oo,Oo⟩,Oo⟩
   · have:=HG3.o.2 _ h;omega
   · have:=HG3.o.2 _ h;omega
   · have:=HG3.o.1 _ h;omega
   · rcases hb with h1|h1|rfl|rfl|rfl
     · omega
     · have:=HG3.o.1 _ h1;omega
     all_goals omega)
  have HI5:=Zh (MI.init (N:=N) (ls:=ls) (av:=av) (s:=s) (na:=na));have HPU:=Zh (Qgk w5 _ HW5.o.hh s hsn 0 Oo Oo);clear hh hb5 HHN HD4 HB4 HZ4 HDB HQ3 HC3 HP3 HG3 HGM HR3 HK3 HM3 HRL HB3;go_wp2_with fail
  with_reducible refine HPU.o.mono ?_
  rintro r w6 ⟨rfl,hh6,ha6⟩;have HW6:=Zh (HW5.o.heap hh6 ha6);obtain ⟨nw6,hnw6,hk6⟩:=HW6.o.a.wt;have HND:=Zh hk6.nd;have HL6:=Zh (show Qel ks (fun _=>none)=ks.length from Rfz ks);clear hh6 ha6 HPU HW5 hnw6;go_wp2_with (at_len;with_reducible refine Rij rfl _ rfl rfl hk6 ?_)
  clear hk6;go_wp2_with fail
  rw [←HL6.o];go_loopw [12] (fun q W=>∃ (GC:Nat→Prop) (n:Nat) (f:Nat→Nat→Option Value) (dnf hp:Nat→Option Int) (dn:List Bool),q=.int .i64 (Qel ks dnf:Nat)∧MRW w W GC qb g o N ls TA nt ct tl CA NC cC cl Q L cq mb pb wb rb db gh na n0 n f av ks (Qmi tl dnf) dn hp∧MI N ls av s na dnf hp dn∧∀ b,GC b→G b∨w.heap.size≤b) (fun _ W=>na-doneW db W)
  case atStart=>exact ⟨_,_,_,_,_,_,rfl,HW6.o,HI5.o,HS3.o⟩
  case round =>clear HW6 HI5 HS3;obtain ⟨GC,n,f,dnf,hp,dn,rfl,hw,hi,hs⟩:=hrel;have HWr:=Zh hw;have HIr:=Zh hi;have HSB:=Zh hs;have HPO:=Zh (Qrx wr hp hw.hh);have hll:Qel ks dnf≤ks.length:=List.countP_le_length;have hln:=HKN.o;have hcn:=Qht dn;rw [hi.ld] at hcn;have HNN0:=Zh (show n≤n0+16384 by have:=hw.nn;omega);clear hw hi hs hcn;by_cases hl0:Qel ks dnf=0;{(have e2:¬((0:Int)<((Qel ks dnf:Nat):Int)):=Oo);have HRQ:=Zh (HIr.o.row HOK.o HNI.o (.inr (fun i t ht=>Rcd hl0 t ((HKA.o t).1.2 (Zm ht)))));have HWE2:=HWr;clear hl0;exact Kbe};(have e2:(0:Int)<((Qel ks dnf:Nat):Int):=Oo);obtain ⟨lf,hlf⟩:=Zx (Qel ks dnf);have HLF:=Zh hlf;rw [←hlf] at e2 hll ⊢;clear hl0 hlf;(go_wp2_with fail);(with_reducible refine HPO.o.mono ?_);rintro e w7 ⟨h7,ha7⟩;have HA7:=Zh ha7;clear ha7;(rcases h7 with ⟨hno,rfl,hh⟩|⟨k,z,hkn,hkz,hmin,rfl,hh⟩);{have HRQ:=Zh (HIr.o.row (tl:=tl) HOK.o HNI.o (.inl hno));have HWE2:=Zh (HWr.o.heap hh HA7.o);clear hno hh HPO;exact Kbe};(have HW7:=Zh (HWr.o.heap hh HA7.o);have HMI:=Zh hmin;have HKZ:=Zh hkz;clear hh hmin hkz HPO;have hfree:=HIr.o.free hkn HKZ.o;obtain ⟨xk,hxk⟩:∃ xk,N.ar[k]?=some xk:=⟨_,Zg (by rw [←HNA.o];exact hkn)⟩;have HXK:=Zh hxk;have hkl:k<dn.length:=by rw [HIr.o.ld];exact hkn);(have dk:=HW7.o.a.dd.cellB (i:=k) (Qbo false hkl);have df:=HW7.o.a.dd.frozen k;have HW8:=Zh (HW7.o.done k);have HDN:=Zh hfree.1;have HDK:=Zh hfree.2;have HKL:=Zh hkl;have hkn':(k:Int)<na:=Oo);(have hk0:0≤(k:Int):=Oo);have HTK:=Zh (show ∀ os cs,MJ N ls av s na k z os cs 0 (upD dnf k z) (fun q=>if q=k then none else hp q) (dn.set k true)∧Rau N ls av k from fun os cs=>HIr.o.take (os:=os) (cs:=cs) HOK.o HP.o HE.o ⟨_,HXS.o⟩ HAV.o hkn HKZ.o HMI.o);obtain ⟨nw8,hnw8,hk8⟩:=HW8.o.a.wt;have hmp:=hk8.mpI;clear hfree hxk hkl hk8;by_cases hks:k∈ks;{(have hf:fK ks k=some 0:=by unfold fK;rw [if_pos hks]);have HLC:=Zh (show Qel ks dnf=Qel ks (upD dnf k z)+1 from Qzx HND.o hks HDN.o);(have eW:IntKind.i64.wrap ((lf:Int)-1)=(lf:Int)-1:=IntWalk.i64_in _ Oo;clear hks;have hqd:qb≠db:=fun e=>HW7.o.a.nb.1.2.2.2 (e▸(Qat.1 HW7.o.a.qr.q3).1));(have hdq:db≠qb:=fun e=>hqd e.symm);have q3:=(HW7.o.a.qr.le (Qan _ _)).q3;have q3':=(HW8.o.a.qr.le (Qan _ _)).q3;(go_wp2_with (at_lookup;with_reducible refine Qik rfl _ _ rfl k rfl hmp rfl Oo ?_));(refine Qai ?_;intro w8 hw8);rw [←hw8] at HW8;clear hw8 dk df hmp q3 q3' hqd hdq;(go_loopw [100] (fun q V=>∃ i:Nat,i≤nt∧q=.int .i64 i∧MRW w V GC qb g o N ls TA nt ct tl CA NC cC cl Q L cq mb pb wb rb db gh na n0 n f av ks (Qym tl dnf k z i) (dn.set k true) (fun q=>if q=k then none else hp q)) (fun q _=>nt-(intOf q).toNat));(case atStart=>exact ⟨0,Nat.zero_le _,rfl,by rw [Rhs];exact HW8.o⟩);case round =>clear HW8;obtain ⟨i,hi,rfl,hw⟩:=hrel;(by_cases hlt:i<nt);rotate_left;{(obtain rfl:nt=i:=Oo);(have i1:¬(nt:Int)<nt:=Oo);obtain ⟨w8,rfl⟩:=Zx wr;have HW8:=Zh (show MRW w w8 GC qb g o N ls TA nt ct tl CA NC cC cl Q L cq mb pb wb rb db gh na n0 n f av ks (Qmi tl (upD dnf k z)) (dn.set k true) (fun q=>if q=k then none else hp q) by rw [←rowT_all,HLT.o];exact hw);(obtain ⟨lx,hlx⟩:=Zx (Qel ks (upD dnf k z));have HLX:=Zh hlx;have elx:(lf:Int)-1=lx:=by have:=HLC.o;have:=HLF.o;omega);rw [elx];clear hw hlx elx eW hi hlt;have q0:=(HW8.o.a.qr.le (Qan _ _)).q0;(go_wp2_with fail);(clear q0;with_reducible refine (HTO.o w8 (HW8.o.a.qr.gr.le (Qan _ _)) k xk HXK.o).mono ?_);exact Kaa};(obtain ⟨tb,to,t,hTA,ht,ctt⟩:=(hw.a.qr.le (Qan _ _)).ts.at_ hlt;obtain ⟨a,y,rfl,hy⟩:=HTS.o i t ht;have i1:(i:Int)<nt:=Oo);(have i2:0≤(i:Int):=Oo);have HWi:=Zh hw;subst hTA;by_cases hak:a=k;{subst hak;obtain ⟨ov,hov⟩:∃ ov,(Qym tl dnf a z i)[i]?=some ov:=⟨_,Zg (by rw [rowT_len (by rw [HLT.o];omega),HLT.o];exact hlt)⟩;have r0:=hw.a.rr.cellI hov;have rz:=hw.a.rr.frozen i;have HWX:=Zh (show MRW w (wr.setCell ⟨rb,i,none⟩ (.int .i64 z)) GC qb g o N ls (some ⟨tb,to,none⟩) nt ct tl CA NC cC cl Q L cq mb pb wb rb db gh na n0 n f av ks (Qym tl dnf a z (i+1)) (dn.set a true) (fun q=>if q=a then none else hp q) from rowT_hit ht▸hw.row_ i z);clear hw hov ht hy;(go_wp2_with fail);go_roundw;(case rel=>exact ⟨i+1,Oo,by go_num,HWX.o⟩);case measure=>simp [intOf];omega};{(have hne:¬(a:Int)=k:=Oo);have HWX:=Zh (Rhr (dnf:=dnf) (c:=z) ht hak);clear hw ht hy hak;(go_wp2_with fail);go_roundw;(case rel=>exact ⟨i+1,Oo,by go_num,by rw [←HWX.o];exact HWi.o⟩);case measure=>simp [intOf];omega}};{(have hf:fK ks k=none:=by unfold fK;rw [if_neg hks]);have HLC:=Zh (show Qel ks (upD dnf k z)=Qel ks dnf from Qoa hks);(have hro:Qmi tl (upD dnf k z)=Qmi tl dnf:=rowV_off (fun i h=>hks ((HKA.o k).1.2 (Zm h))) (fun i t ht=>by obtain ⟨a,y,e,_⟩:=HTS.o i t ht;exact ⟨a,e⟩);rw [←hro] at HW8;clear hks hro;have hqd:qb≠db:=fun e=>HW7.o.a.nb.1.2.2.2 (e▸(Qat.1 HW7.o.a.qr.q3).1));(have hdq:db≠qb:=fun e=>hqd e.symm);(have q0:=(HW7.o.a.qr.le (Qan _ _)).q0;have q0':=(HW8.o.a.qr.le (Qan _ _)).q0;obtain ⟨lx,hlx⟩:=Zx (Qel ks (upD dnf k z));have HLX:=Zh hlx;have elx:lf=lx:=by have:=HLC.o;have:=HLF.o;omega);subst elx;(go_wp2_with (at_lookup;with_reducible refine Qik rfl _ _ rfl k rfl hmp rfl Oo ?_));(refine Qab ?_;intro w8 hw8);(rw [←hw8] at HW8;clear hw8 dk df hlx hmp q0 q0' hqd hdq;with_reducible refine (HTO.o w8 (HW8.o.a.qr.gr.le (Qan _ _)) k xk HXK.o).mono ?_);exact Kaa}
end Go.Proofs.YtkaaakbejnlbgaaGreatDoor
namespace Go.Proofs.YtkaaakbejnlbgaaGreatDoor
open Go.RowKit Go.Proofs.Tryz
attribute [local go_sem ↓] Go.wp_at_zero Go.wp_at_succ
theorem Rhf (A:Oz)(n c:Nat)(l:Iz)(v:Int)(w:World)(h:RdI w A n l)(hn:n≤1000000000) :
 Calls prog 113 #[.slice A n c,.int .i64 v] w fun e w'=>e=.returned (.int .i64 (plI l v))∧w=w':=by
 have HR:=Zh h;have HL:=Zh h.1;clear h;go_enter func113,ntmps113
 go_wp2_with fail
 go_loop [5] (fun q=>∃ k:Nat,k≤n∧q=.int .i64 k∧∀ j x,j<k→l[j]?=some x→x≠v) (fun q=>n-(intOf q).toNat)
 case atStart=>exact ⟨0,Nat.zero_le _,rfl,fun _ _ h=>absurd h (Nat.not_lt_zero _)⟩
 case round =>exact Kal
theorem Qot (A B C:Oz)(n m k c d e:Nat)(a:Int)(w:World)(h0:0≤a)(h1:a<m) :
 Calls prog 62 #[.agg #[.slice A n c,.slice B m d,.slice C k e],.int .i64 a] w fun r w'=>r=.returned (.bool true)∧Bw w w':=by exact Kcl
theorem idx_at {f:Tri→Int}{l:List Tri}{k:Nat}{y:Tri} (h:l[k]?=some y):∀ j,k<j→j≤l.length→(idx f (l.take j) (f y))[(idx f (l.take k) (f y)).length]?=some (k:Int):=by
 intro j
 induction j with
 | zero=>intro h1;omega
 | succ j ih =>intro h1 h2;obtain ⟨z,hz⟩:∃ z,l[j]?=some z:=⟨_,Zg Oo⟩;rw [Qzo hz];by_cases e:k=j;{subst e;rw [h] at hz;cases hz;rw [Yb (Zn _),Yy];simp};{have:=ih Oo Oo;rw [Yc (Zs this).1];exact this}
theorem plI_idx {f:Tri→Int}{l:List Tri}{k:Nat}{y:Tri} (h:l[k]?=some y):plI (idx f l (f y)) (k:Int)=((idx f (l.take k) (f y)).length:Nat):=by have hk:=(Zs h).1;have h1:=idx_at (f:=f) h l.length hk (Zn _);rw [List.take_length] at h1;refine Qsl h1 (fun j x hj hx=>?_);have hs:=Qqk f (f y) l;rw [List.pairwise_iff_getElem] at hs;obtain ⟨p1,e1⟩:=Zs hx;obtain ⟨p2,e2⟩:=Zs h1;have:=hs j _ p1 p2 hj;omega
theorem Qvi (A:Oz)(n c:Nat)(t:Qgc)(i o:Nat)(w:World)(h:RdI w A n t.costs)(ht:Qtn t) (hi:(i:Int)<t.ins) (ho:(o:Int)<t.outs) :
 Calls prog 114 #[.agg #[.int .i64 t.ins,.int .i64 t.outs,.slice A n c],.int .i64 i,.int .i64 o] w fun e w'=>∃ x,t.costs[i*t.outs.toNat+o]?=some x∧e=.returned (.int .i64 x)∧Bw w w':=by
 obtain ⟨p,q,cs⟩:=t;simp only at h hi ho ⊢;have i0:0≤p:=ht.i0;have i16:p≤16:=ht.i16;have o0:0≤q:=ht.o0;have o16:q≤16:=ht.o16;have hm:=Quz i0 i16 o0 o16;have hl:(cs.length:Int)=p*q:=ht.len;have hk:(i:Int)*q+o<p*q:=by{exact Kdk};have hk0:0≤(i:Int)*q:=Int.mul_nonneg Oo o0;obtain ⟨k,hkk⟩:∃ k:Nat,(k:Int)=i*q+o:=⟨((i:Int)*q+o).toNat,Oo⟩;have hke:i*q.toNat+o=k:=by{exact Kdq};rw [hke];have hkl:k<n:=by rw [←h.1];omega
 obtain ⟨b,oo,x,hA,hx,hc⟩:=h.at_ hkl;subst hA;have e1:IntKind.i64.wrap ((i:Int)*q)=(i:Int)*q:=IntWalk.i64_in _ Oo;have e2:IntKind.i64.wrap ((i:Int)*q+o)=(k:Int):=by rw [←hkk];exact IntWalk.i64_in _ Oo
 have i1:((k:Int))<(n:Int):=Oo
 have i2:¬(p≤(i:Int)):=Oo
 have i3:¬(q≤(o:Int)):=Oo
 have i4:¬((i:Int)<0):=Oo
 have i5:¬((o:Int)<0):=Oo
 have HX:=Zh hx;have hb:=Qaj hc;simp only at hb;clear hx hk hm hl hkk hke h ht;go_enter func114,ntmps114
 go_wp2_with fail
 go_ret;exact ⟨x,HX.o,rfl,Qag⟩
structure BfW (w:World) (D:Nat) (cs:Array Value) (V:World) (d:Iz):Prop where
 bel:Bw w V
 box:Blk V w.heap.size 129 cs
 row:Blk V D 2 (Qbr d)
 dB:w.heap.size<D
section
variable {w V V':World} {D:Nat} {cs:Array Value} {d:Iz}
theorem BfW.below (h:BfW w D cs V d)(hb:Bw V V'):BfW w D cs V' d:=⟨Zb h.bel hb,h.box.below hb h.box.lt,h.row.below hb h.row.lt,h.dB⟩
theorem BfW.set (h:BfW w D cs V d)(b:Nat)(v:Int):BfW w D cs (V.setCell ⟨D,b,none⟩ (.int .i64 v)) (d.set b v) :=
 ⟨h.bel.setCell (by have:=h.dB;simp only;omega) _,h.box.far_ (by have:=h.dB;omega) _,h.row.setI rfl,h.dB⟩
end
