/- Qbl of the proof: LoP, BtR, BtW, BtA, BtO, BtT. -/
import Derived.Test.YtkaaakbejnlbgaaGreatDoorE23
import Derived.Test.YtkaaakbejnlbgaaGreatDoorShelf3
import Derived.Shelf.SlicesE.Reverse
set_option maxHeartbeats 4000000
namespace Go.Proofs.YtkaaakbejnlbgaaGreatDoor
open Go.RowKit Go.Proofs.Tryz
def Qcq:Qak:=⟨[(0,0,0),(1,0,0),(2,0,0),(3,0,0),(4,0,0)],[(0,1,9),(1,2,9),(2,3,9),(3,4,9),(4,0,9)],[⟨1,1,[1]⟩]⟩
def Qse:Lz:=[[0,0,1,1,1]]
theorem Qkd:Qar Qcq:=by
 refine ⟨Sd,Sd,Sd,?_,?_,?_,?_⟩;{intro t ht;simp only [Qcq,List.mem_cons,List.not_mem_nil,or_false] at ht;subst ht;exact ⟨Sd,Sd,Sd,Sd,Sd,Sd⟩};{intro t ht;simp only [Qcq,List.mem_cons,List.not_mem_nil,or_false] at ht;rcases ht with rfl|rfl|rfl|rfl|rfl <;> exact ⟨Sd,Sd,Sd,Sd⟩};{intro t ht;simp only [Qcq,List.mem_cons,List.not_mem_nil,or_false] at ht;rcases ht with rfl|rfl|rfl|rfl|rfl <;> exact ⟨Sd,Sd,Sd,Sd,Sd⟩}
 · intro i v t hv ht;(have hi:i<5:=(Zs hv).1);rcases (by omega:i=0∨i=1∨i=2∨i=3∨i=4) with rfl|rfl|rfl|rfl|rfl
   all_goals
    simp only [Qcq,Yn,List.getElem?_cons_succ,Option.some.injEq] at hv;subst hv
    revert ht
    simp only [Qcq,show (0:Int).toNat=0 from rfl,Yn,Option.some.injEq]
    rintro rfl;exact ⟨Sd,Sd⟩
theorem Rab:Qbt Qcq.vs.length Qse:=by refine ⟨Sd,Sd,?_,?_⟩;{intro l hl;(simp only [Qse,List.mem_cons,List.not_mem_nil,or_false] at hl;subst hl;refine ⟨Sd,Sd,Sd,?_⟩;intro c hc;have hm:Qay [0,0,1,1,1]=2:=Sd);rw [hm] at hc;rcases (by omega:c=0∨c=1) with rfl|rfl <;> decide};{intro i p l hp hl;(have hi:i+1<1:=(Zs hl).1);omega}
theorem Rgh:Qcy (Qah Qcq.ar Qse)=2:=by
 have:Qaf Qcq.ar [0,0,1,1,1]=[([4],[1]),([1],[4])]:=Sd
 unfold Qah Qse;rw [List.map_cons,this];rfl
theorem lo_lt {a:Nat}{y:Tri} (h:Qcq.ar[a]?=some y):a<5∧y=((a:Int),(((a+1) % 5:Nat):Int),9):=by
 match a,h with
 | 0,h=>cases h;exact ⟨Oo,rfl⟩
 | 1,h=>cases h;exact ⟨Oo,rfl⟩
 | 2,h=>cases h;exact ⟨Oo,rfl⟩
 | 3,h=>cases h;exact ⟨Oo,rfl⟩
 | 4,h=>cases h;exact ⟨Oo,rfl⟩
 | k+5,h=>simp [Qcq] at h
theorem lo_t (a:Nat)(h:a<5):Qal Qcq a ((a+1) % 5)=1:=by rcases (by omega:a=0∨a=1∨a=2∨a=3∨a=4) with rfl|rfl|rfl|rfl|rfl <;> decide
theorem Rgg {a b:Nat}{d:Int}:StW Qcq a b d↔a<5∧b=(a+1) % 5∧d=10:=by constructor;{rintro ⟨y,hy,h1,_,rfl⟩;obtain ⟨x,z,hx,hz,e⟩:=Qby h1;obtain ⟨h2,rfl⟩:=lo_lt hx;rw [hy] at hz;cases hz;(obtain ⟨h3,rfl⟩:=lo_lt hy;simp only at e;obtain rfl:b=(a+1) % 5:=Oo);refine ⟨h2,rfl,?_⟩;rw [lo_t a h2];exact (by decide:(1:Int)+9=10)};{rintro ⟨h1,rfl,rfl⟩;refine ⟨((((a+1) % 5:Nat):Int),((((a+1) % 5+1) % 5:Nat):Int),9),?_,?_,(by decide:(9:Int)≠1152921504606846976),by rw [lo_t a h1];exact (by decide:(10:Int)=1+9)⟩;{rcases (by omega:a=0∨a=1∨a=2∨a=3∨a=4) with rfl|rfl|rfl|rfl|rfl <;> rfl};{rw [lo_t a h1];decide}}
theorem lo_rch {s p:Nat}{c:Int}(hs:s<5) (h:Rch (StW Qcq) s p c):∃ k:Nat,c=10*(k:Int)∧p=(s+k) % 5:=by
 induction h with
 | start=>exact ⟨0,rfl,Oo⟩
 | step _ h2 ih =>obtain ⟨h3,rfl,rfl⟩:=Rgg.1 h2;obtain ⟨k,rfl,rfl⟩:=ih;exact ⟨k+1,Oo,Oo⟩
theorem lo_to {s:Nat}(hs:s<5)(k:Nat):Rch (StW Qcq) s ((s+k) % 5) (10*(k:Int)):=by
 induction k with
 | zero=>rw [show (s+0) % 5=s by omega];exact .start
 | succ k ih =>have:=ih.step (Rgg.2 ⟨Oo,rfl,rfl⟩);rw [show ((s+k) % 5+1) % 5=(s+(k+1)) % 5 by omega] at this;rw [show 10*((k+1:Nat):Int)=10*(k:Int)+10 by omega];exact this
theorem Rcf (s t:Nat)(k:Nat)(hs:s<5)(ht:t<5) (hk:k=(t+5-s) % 5):Raw Qcq (s:Int) (t:Int) (10*(k:Int)):=by refine .inl ⟨⟨Oo,by show (s:Int)<5;omega⟩,⟨Oo,by show (t:Int)<5;omega⟩,.inr ⟨?_,.inl ⟨?_,fun c hc=>?_⟩⟩⟩;{rcases (by omega:s=0∨s=1∨s=2∨s=3∨s=4) with rfl|rfl|rfl|rfl|rfl <;> decide};{have:=lo_to hs k;rwa [show (s+k) % 5=t by omega] at this};{obtain ⟨j,rfl,hj⟩:=lo_rch hs hc;rw [Yl] at hj;omega}
theorem lo_f (s t:Int)(h:s=9∨t=9):Raw Qcq s t 1152921504606846976:=.inr ⟨fun h2=>by have h3:s<5:=h2.1.2;have h4:t<5:=h2.2.2;omega,rfl⟩
theorem Qtc.three {N:Qak}{s a b c x y z:Int}(h0:Raw N s a x)(h1:Raw N s b y)(h2:Raw N s c z):Qtc N [a,b,c] s [x,y,z]:=⟨rfl,fun i t ht=>by
 match i,ht with
 | 0,ht=>cases ht;exact ⟨x,rfl,h0⟩
 | 1,ht=>cases ht;exact ⟨y,rfl,h1⟩
 | 2,ht=>cases ht;exact ⟨z,rfl,h2⟩
 | i+3,ht=>simp at ht⟩
theorem Qpl.three {N:Qak}{a b c:Int}{x y z:Iz} (h0:Qtc N [a,b,c] a x) (h1:Qtc N [a,b,c] b y) (h2:Qtc N [a,b,c] c z):Qpl N [a,b,c] [x,y,z]:=⟨rfl,fun i t ht=>by
 match i,ht with
 | 0,ht=>cases ht;exact ⟨x,rfl,h0⟩
 | 1,ht=>cases ht;exact ⟨y,rfl,h1⟩
 | 2,ht=>cases ht;exact ⟨z,rfl,h2⟩
 | i+3,ht=>simp at ht⟩
def Qsd:Lz:=[[0,30,10],[20,0,30],[40,20,0]]
theorem Qus:Qpl Qcq [0,3,1] Qsd :=
 .three (.three (Rcf 0 0 0 Oo Oo rfl) (Rcf 0 3 3 Oo Oo rfl) (Rcf 0 1 1 Oo Oo rfl))
  (.three (Rcf 3 0 2 Oo Oo rfl) (Rcf 3 3 0 Oo Oo rfl) (Rcf 3 1 3 Oo Oo rfl))
  (.three (Rcf 1 0 4 Oo Oo rfl) (Rcf 1 3 2 Oo Oo rfl) (Rcf 1 1 0 Oo Oo rfl))
theorem lo_tab2:Qpl Qcq [0,3,9] [[0,30,1152921504606846976],[20,0,1152921504606846976],[1152921504606846976,1152921504606846976,1152921504606846976]] :=
 .three (.three (Rcf 0 0 0 Oo Oo rfl) (Rcf 0 3 3 Oo Oo rfl) (lo_f 0 9 (.inr rfl)))
  (.three (Rcf 3 0 2 Oo Oo rfl) (Rcf 3 3 0 Oo Oo rfl) (lo_f 3 9 (.inr rfl)))
  (.three (lo_f 9 0 (.inl rfl)) (lo_f 9 3 (.inl rfl)) (lo_f 9 9 (.inl rfl)))
def Qtk (N:Nat)(cap lim:Int) (ls:Lz) (st:Pz) (out:Lz):Prop :=
 ∃ (L:List Sv) (R:Lz),L.Perm (Qjo ls)∧L.Pairwise Qtf∧R.Perm (L.foldl (Qbp cap lim ls st) (Qbs N))∧R.Pairwise (fun a b=>Qco a<Qco b)∧Qks N cap lim ls st R out
theorem lo_made {out:Lz} (h:Qtk 2 5 50 Qsd [(3,2),(1,3)] out):out=[[2,1]]:=by
 obtain ⟨L,R,h1,_,h3,_,h5⟩:=h;have e1:Qjo Qsd=[(2,1,50)]:=Sd
 rw [e1] at h1;obtain rfl:=List.perm_singleton.1 h1;rw [show ([(2,1,50)]:List Sv).foldl (Qbp 5 50 Qsd [(3,2),(1,3)]) (Qbs 2)=[[2,1]] by decide] at h3;obtain rfl:=List.perm_singleton.1 h3
 cases h5 with
 | done _=>rfl
 | step h6 _=>exact absurd h6 Sd
open Go.Shelf Go.Sort
attribute [local go_sem ↓] Go.wp_at_zero Go.wp_at_succ
theorem Qmz {r:List Int}{a b:Nat}(h:a≤b)(hb:b<r.length):(segR r a b).length=r.length:=by unfold segR;simp only [Yp,Yw,List.length_reverse,List.length_drop];omega
theorem segR_get {r:List Int}{a b k:Nat}(h:a≤b)(hb:b<r.length):(segR r a b)[k]?=if a≤k∧k<b+1 then r[a+b-k]? else r[k]?:=by
 unfold segR;by_cases h1:k<a
 {rw [Yc (by rw [Yw];omega),List.getElem?_take_of_lt h1,if_neg (by omega)]};{rw [Yb (by rw [Yw];omega),Yw,show min a r.length=a by omega];(by_cases h2:k<b+1);{rw [if_pos ⟨by omega,h2⟩,Yc (by rw [List.length_reverse,Yw,List.length_drop];omega),List.getElem?_reverse (by rw [Yw,List.length_drop];omega),Yw,List.length_drop,List.getElem?_take_of_lt (by omega),List.getElem?_drop];(congr 1);omega};{rw [if_neg (by omega),Yb (by rw [List.length_reverse,Yw,List.length_drop];omega),List.length_reverse,Yw,List.length_drop,List.getElem?_drop];(congr 1);omega}}
theorem Own.seg {w:World}{B g n c a b:Nat}{zs:List Int} (h:Own w B 3 1 (some ⟨g,0,none⟩) n c (Qae zs)) (hab:a≤b) (hb:b<n) :
 Holds (Value.int .i64) w g a ((zs.drop a).take (b+1-a)).toArray∧∀ q,Own (putRow (Value.int .i64) (Sort.ahead w q) g a (((zs.drop a).take (b+1-a)).reverse).toArray) B 3 1 (some ⟨g,0,none⟩) n c (Qae (segR zs a b))∧w.grownBy (putRow (Value.int .i64) (Sort.ahead w q) g a (((zs.drop a).take (b+1-a)).reverse).toArray) (some g):=by
 have hl:zs.length=n:=by have:=h.1;simpa [Qae] using this
 rcases h.2 with ⟨h',_⟩|⟨g',cap,cur,h1,h2,h3,h4,h5,h6,h7⟩
 {cases h'};cases h1
 have hcur:∀ (k:Nat) (x:Int),zs[k]?=some x→cur[k]?=some (Value.int .i64 x):=fun k x hk=>by
  have h8:(cur.toList.take (n*1))[k]?=(Qae zs)[k]?:=by rw [h7]
  have hkn:k<n:=by rw [←hl];exact (Zs hk).1
  rw [List.getElem?_take_of_lt (by omega),Array.getElem?_toList] at h8;rw [h8];simp [Qae,hk]
 refine ⟨fun j hj=>?_,fun q=>⟨⟨by simp [Qae,Qmz hab (hl.symm▸hb),hl],.inr ⟨g,c,putCells (Value.int .i64) a (((zs.drop a).take (b+1-a)).reverse).toArray cur,rfl,h2,?_,h4,h5,by simp [putCells,h6],?_⟩⟩,?_⟩⟩;{(have hj2:j<b+1-a:=by simp at hj;omega);have hz:zs[a+j]?=some zs[a+j]:=Zg (by omega);refine ⟨?_,by simp [World.frozen?,h3]⟩;simp only [World.cell?,h3,Option.isSome_none,Bool.false_eq_true,if_false];rw [hcur _ _ hz,getElem!_pos _ j hj];simp};{(have hg:g<w.heap.size:=(Array.getElem?_eq_some_iff.1 h3).1);simp [putRow,mapBlock,Sort.ahead,Array.getElem?_modify,h3,onCells]};{apply List.ext_getElem?;intro k;(by_cases hk:k<n);{(have hkc:k<cur.size:=by rw [h6];omega);obtain ⟨x,hx⟩:∃ x,(segR zs a b)[k]?=some x:=⟨_,Zg (by rw [Qmz hab (hl.symm▸hb)];omega)⟩;rw [List.getElem?_take_of_lt (by omega),Array.getElem?_toList,show (Qae (segR zs a b))[k]?=some (.int .i64 x) by simp [Qae,hx]];(have hs:=segR_get (r:=zs) (k:=k) hab (hl.symm▸hb);rw [hx] at hs;simp only [putCells,Array.getElem?_mapIdx,Array.getElem?_eq_getElem hkc,Option.map_some,Option.some.injEq];have hsz:(((zs.drop a).take (b+1-a)).reverse).toArray.size=b+1-a:=by simp;omega);(by_cases hi:a≤k∧k<b+1);{rw [if_pos hi] at hs;rw [if_pos ⟨hi.1,by rw [hsz];omega⟩,getElem!_pos _ (k-a) (by rw [hsz];omega)];(congr 1);have h9:(((zs.drop a).take (b+1-a)).reverse)[k-a]?=some x:=by{rw [List.getElem?_reverse (by rw [Yw,List.length_drop];omega),Yw,List.length_drop,List.getElem?_take_of_lt (by omega),List.getElem?_drop,hs];(congr 1);omega};simpa using (Zs h9).2};{rw [if_neg hi] at hs;rw [if_neg (by rw [hsz];omega)];have:=hcur k x hs.symm;rw [Array.getElem?_eq_getElem hkc] at this;exact Yv this}};{rw [List.getElem?_take_eq_none (by omega),Yd (by simp [Qae,Qmz hab (hl.symm▸hb)];omega)]}};{refine ⟨rfl,rfl,rfl,by simp [putRow,mapBlock,Sort.ahead],fun k hk hne=>?_⟩;(have:g≠k:=fun e=>hne (by rw [e]));simp [putRow,mapBlock,Sort.ahead,Array.getElem?_modify,this]}
theorem Rhk (g n c a b c' B:Nat)(zs:List Int)(w:World) (h:Own w B 3 1 (some ⟨g,0,none⟩) n c (Qae zs)) (hab:a≤b) (hb:b<n) (hB:B≤w.heap.size) (hn:n≤1000000000) :
 Calls prog 206 #[.slice (some ⟨g,a,none⟩) (b+1-a) c'] w fun e w'=>e=.returned (.tuple #[])∧Own w' B 3 1 (some ⟨g,0,none⟩) n c (Qae (segR zs a b))∧Below B w w':=by
 have hl:zs.length=n:=by have:=h.1;simpa [Qae] using this
 obtain ⟨hH,hO⟩:=h.seg hab hb;have hsl:((zs.drop a).take (b+1-a)).length=b+1-a:=by rw [Yw,List.length_drop];omega
 have hcon:=AnyE.slices_Reverse revInt (Value.int .i64) (fun _=>rfl) g a c' ((zs.drop a).take (b+1-a)) w hH (by omega);rw [hsl] at hcon;refine Calls.mono (show Calls prog 206 _ _ _ from hcon) ?_;rintro e w' ⟨rfl,q,rfl⟩;exact ⟨rfl,(hO q).1,(Zr B w).grown (hO q).2 hB fun k hk=>by cases hk;exact (h.lt g rfl).1⟩
open Go.Lib
def RtM (W:World)(K:Nat→Prop)(g N:Nat) (rs:List (List Int)):Prop :=
 rs.length≤N∧∃ cs,Blk W g 64 cs∧cs.size=N∧∀ (j:Nat) (l:List Int),rs[j]?=some l→∃ A n c,cs[j]?=some (.slice A n c)∧RdI (msk W (fun b=>K b∧b≠g)) A n l∧n≤c∧c≤9223372036854775807
section
variable {W W':World} {K:Nat→Prop} {g N i n c:Nat} {rs:List (List Int)} {l:List Int} {A:Option Addr}
theorem RtM.lt (h:RtM W K g N rs):g<W.heap.size:=by obtain ⟨_,cs,h1,_⟩:=h;exact h1.lt
theorem RtM.below (h:RtM W K g N rs)(hb:RowKit.Below W.heap.size W W'):RtM W' K g N rs:=by obtain ⟨h0,cs,h1,h2,hr⟩:=h;refine ⟨h0,cs,h1.below hb h1.lt,h2,fun j l hl=>?_⟩;obtain ⟨A,n,c,g1,g2,g3⟩:=hr j l hl;exact ⟨A,n,c,g1,g2.le (Qaz.msk (Qaz.below hb)),g3⟩
theorem RtM.set (h:RtM W K g N rs)(hi:i<rs.length) (hA:RdI (msk W (fun b=>K b∧b≠g)) A n l) (h4:n≤c) (h5:c≤9223372036854775807) :
 RtM (W.setCell ⟨g,i,none⟩ (.slice A n c)) K g N (rs.set i l):=by obtain ⟨h0,cs,h1,h2,hr⟩:=h;have hle:Le (msk W (fun b=>K b∧b≠g)) (msk (W.setCell ⟨g,i,none⟩ (.slice A n c)) (fun b=>K b∧b≠g)):=Qaz.msk (Qaz.set _ _ _ _ (fun h=>h.2 rfl));refine ⟨by rw [Yq];exact h0,_,h1.set_ i (.slice A n c),by simpa using h2,fun j l' hl=>?_⟩;by_cases e:i=j;{subst e;rw [Yg hi] at hl;cases hl;exact ⟨A,n,c,by rw [Array.getElem?_setIfInBounds_self_of_lt (by omega)],hA.le hle,h4,h5⟩};{rw [Yh e] at hl;obtain ⟨A',n',c',g1,g2,g3⟩:=hr j l' hl;exact ⟨A',n',c',by rw [Array.getElem?_setIfInBounds_ne e];exact g1,g2.le hle,g3⟩}
theorem RtM.rdT (h:RtM W K g N rs)(hg:K g):RdT (msk W K) (some ⟨g,0,none⟩) rs.length rs:=by obtain ⟨_,cs,hb,_,hr⟩:=h;refine ⟨rfl,fun i l hl=>?_⟩;obtain ⟨A,n,c,h1,h2,h4,h5⟩:=hr i l hl;exact ⟨g,0,A,n,c,rfl,Qat.2 ⟨hg,by rw [Yz,hb.cell];exact h1⟩,h2.le (Qbj fun _ h=>h.1),h4,h5⟩
theorem RtM.cellAt (h:RtM W K g N rs)(hi:i<rs.length):∃ A n c,W.cell? ⟨g,i,none⟩=some (.slice A n c)∧W.frozen? ⟨g,i,none⟩=false∧RdI (msk W (fun b=>K b∧b≠g)) A n (rs.getD i [])∧n≤c∧c≤9223372036854775807:=by
 obtain ⟨_,cs,hb,_,hr⟩:=h;have hl:rs[i]?=some (rs.getD i []):=by rw [Ya,Zg hi];rfl
 obtain ⟨A,n,c,h1,h2,h3⟩:=hr i _ hl;exact ⟨A,n,c,by rw [hb.cell];exact h1,hb.frozen i,h2,h3⟩
end
theorem Rfx {w W:World}{K:Nat→Prop}{g:Nat}(hb:RowKit.Below w.heap.size w W)(hg:w.heap.size≤g):Le (msk w K) (msk W (fun b=>K b∧b≠g)):=fun a v hc=>by obtain ⟨h1,h2⟩:=Qat.1 hc;have:=Qaj h2;exact Qat.2 ⟨⟨h1,by omega⟩,Zc hb (Zn _) h2⟩
theorem Qqg (a:Addr)(n c:Nat) (rs:List (List Int)) (w:World) (K:Nat→Prop) (h:RdT (msk w K) (some a) n rs) (hn:n≤1000000000) (h0:0<n) :
 Calls prog 91 #[.slice (some a) n c] w fun e w'=>∃ g N,e=.returned (.slice (some ⟨g,0,none⟩) n N)∧w.heap.size≤g∧RtM w' K g N rs∧n≤N∧N≤9223372036854775807∧RowKit.Below w.heap.size w w':=by
 have q22:∀ (w:World) (a:Option Addr) (n c n' c':Nat),(binOp .eql 27 (.slice a n c) (.slice none n' c')).run prog w=.ok (.bool a.isNone) w:=fun w a n c n' c'=>Lib.run_eql_slice_nil w _ _ a n c n' c' underlying27
 obtain ⟨xs,hxl,hxs⟩:=Qkc (p:=fun j (v:Value)=>∃ l b o A n' c',rs[j]?=some l∧some a=some ⟨b,o,none⟩∧w.cell? ⟨b,o+j,none⟩=some v∧v=.slice A n' c'∧RdI (msk w K) A n' l∧n'≤c'∧c'≤9223372036854775807) n (fun j hj=>by
  obtain ⟨b,o,A',n',c',l,h1,h2,h3,h4,h5,h6⟩:=h.at_ hj;exact ⟨_,l,b,o,A',n',c',h2,h1,Qan _ _ _ _ h3,rfl,h4,h5,h6⟩)
 have hrd:Rds w 1 (some a) n xs:=⟨by omega,fun j u hu=>by
  obtain ⟨l,b,o,A,n',c',_,h1,h2,_⟩:=hxs j u hu;exact ⟨b,o,h1,h2⟩⟩
 have hone:∀ u∈xs,u.oneCell'=true:=fun u hu=>by{exact Kdf};have hb1:∀ o,RowKit.Below w.heap.size w (w.alloc o):=fun o=>(Zr _ _).alloc (Zn _) o
 have hown0:Own (w.alloc (.cells #[] 64)) w.heap.size 64 1 (some ⟨w.heap.size,0,none⟩) 0 0 []:=Own.lit w #[] 0 (Zn _) (by omega) rfl;have HX:=Zh hxs;have HL:=Zh h.1;clear h hxs;go_enter func91,ntmps91
 go_wp2_with (at_builtin;with_reducible refine Qam rfl (.tmp 5) (.tmp 6) 27 rfl 64 _ 1 24 infoR underlying27 rfl (by omega) (B:=w.heap.size) rfl rfl hown0 (hrd.below (hb1 _)) hone (by omega) (by omega) (by simp) ?_)
 intro A' c' w' hown hg _;have hb2:RowKit.Below w.heap.size w w':=Zo (hb1 _) hg hown0 (by simp);have hm:=hown.capMax;try simp only [Yz,List.nil_append] at hown
 obtain ⟨g,cur,rfl,hBg,hblk,hnc,hsz,hcell⟩:=hown.block (by omega);go_wp2;go_ret;refine ⟨g,c',rfl,hBg,⟨by rw [HL.out];omega,cur,hblk,by omega,fun i l hl=>?_⟩,by omega,hm,hb2⟩;have hi:i<xs.length:=by rw [hxl,←HL.out];exact (Zs hl).1
 obtain ⟨l',b,o,A,n',c'',e1,_,_,h3,h4,h5,h6⟩:=HX.out i _ (Zg hi);rw [hl] at e1;cases e1;exact ⟨A,n',c'',by rw [hcell i _ (Zg hi),h3],h4.le (Rfx hb2 hBg),h5,h6⟩
theorem Qwx (g N B i:Nat) (rs:List (List Int)) (w:World) (K:Nat→Prop) (h:RtM w K g N rs) (hi:i<rs.length) (hN:N≤9223372036854775807) (hl9:rs.length≤1000000000) (hB:B≤g) :
 Calls prog 87 #[.slice (some ⟨g,0,none⟩) rs.length N,.int .i64 i,.int .i64 ((i:Int)+1)] w fun e w'=>e=.returned (.slice (some ⟨g,0,none⟩) (rs.length-1) N)∧RtM w' K g N (rs.eraseIdx i)∧RowKit.Below B w w':=by
 have hlt:=h.lt;obtain ⟨h0,cs,hb,hs,hr⟩:=h
 obtain ⟨dl,hdl,hdp⟩:=Qkc (p:=fun j (v:{v:Value // v.oneCell'=true})=>cs[j]?=some v.val) rs.length (fun j hj=>by
  obtain ⟨A,n,c,g1,_⟩:=hr j _ (Zg hj);exact ⟨⟨.slice A n c,rfl⟩,g1⟩)
 obtain ⟨i0,hi0,hz1⟩:=Rfq
 have hH:Holds (fun v:{v:Value // v.oneCell'=true}=>v.val) w g 0 dl.toArray:=fun j hj=>by
  have hj':j<dl.length:=by simpa using hj
  rw [Yz,hb.cell,getElem!_pos dl.toArray j hj];exact ⟨by simpa using hdp j _ (Zg hj'),hb.frozen j⟩
 have hcon:=AnyE.slices_Delete delRow (fun v:{v:Value // v.oneCell'=true}=>v.val) (fun v=>v.property) ⟨.slice none 0 0,rfl⟩ Rio i0 hi0 hz1 g 0 N i (i+1) dl.toArray w hH (by simp;omega) (by omega) (by omega) (by simp;omega);rw [show dl.toArray.size=rs.length by simpa using hdl] at hcon;refine Calls.mono (show Calls prog 87 _ _ _ from hcon) ?_;rintro e w' ⟨rfl,q,rfl⟩;have hw:putRow (fun v:{v:Value // v.oneCell'=true}=>v.val) (Sort.ahead w q) g 0 (dl.toArray.toList.take i ++dl.toArray.toList.drop (i+1) ++List.replicate (i+1-i) (⟨.slice none 0 0,rfl⟩:{v:Value // v.oneCell'=true})).toArray=sortWorld (fun v:{v:Value // v.oneCell'=true}=>v.val) w g 0 q (dl.eraseIdx i ++[(⟨.slice none 0 0,rfl⟩:{v:Value // v.oneCell'=true})]).toArray #[]:=by{exact Kdz};rw [hw];have hle:(rs.eraseIdx i).length=rs.length-1:=by rw [List.length_eraseIdx,if_pos hi]
 have hle2:(dl.eraseIdx i).length=rs.length-1:=by rw [List.length_eraseIdx,if_pos (by omega),hdl]
 obtain ⟨c',k1,k2,k3⟩:=Reh (fun v:{v:Value // v.oneCell'=true}=>v.val) w g 64 cs (dl.eraseIdx i ++[(⟨.slice none 0 0,rfl⟩:{v:Value // v.oneCell'=true})]).toArray q #[] hb;refine ⟨by rw [show i+1-i=1 by omega],⟨by omega,c',k1,by omega,fun j l hl=>?_⟩,Qdh _ w g B _ q #[] hB (by omega)⟩;have hj:=(Zs hl).1;rw [hle] at hj;obtain ⟨j',hj',e1,e2⟩:∃ j',j'<rs.length∧rs[j']?=some l∧(dl.eraseIdx i)[j]?=dl[j']?:=by{exact Kca};have e3:dl[j']?=some dl[j']:=Zg (by omega);obtain ⟨A,n,c,g1,g2,g3⟩:=hr j' l e1;rw [hdp j' _ e3] at g1;refine ⟨A,n,c,?_,g2.le (Qaz.msk (Qaz.grown (Qcg _ w g _ q #[]) (fun b hb e=>hb.2 (by cases e;rfl)))),g3⟩;have hsz:j<(dl.eraseIdx i ++[(⟨.slice none 0 0,rfl⟩:{v:Value // v.oneCell'=true})]).toArray.size:=by simp;omega
 have e4:(dl.eraseIdx i)[j]?=some dl[j']:=e2.trans e3;have e5:=(Zs e4).2;have e6:(dl.eraseIdx i ++[(⟨.slice none 0 0,rfl⟩:{v:Value // v.oneCell'=true})]).toArray[j]=dl[j']:=by{rw [List.getElem_toArray,List.getElem_append_left (by omega),e5]};rw [k3 j (by omega),if_pos hsz,getElem!_pos _ j hsz,←g1,e6]
theorem RdI.pre_ {W:World}{R:Option Addr}{n:Nat}{l:List Int}(h:RdI W R n l){k:Nat}(hk:k≤n):RdI W R k (l.take k) :=
 ⟨by rw [Yw,h.1];omega,fun i x hx=>by
  have hi:=(Zs hx).1;rw [Yw] at hi;rw [List.getElem?_take_of_lt (by omega)] at hx;exact h.2 i x hx⟩
theorem RdI.rest {W:World}{b o n c k:Nat}{l:List Int} (h:RdI W (some ⟨b,o,none⟩) n l) (hc:n≤c):RdI W (if c=k then some ⟨b,o,none⟩ else some ⟨b,o+k,none⟩) (n-k) (l.drop k) :=
 ⟨by rw [List.length_drop,h.1],fun i x hx=>by
  rw [List.getElem?_drop] at hx;have hl:=(Zs hx).1;have hl2:=h.1;rw [if_neg (by omega)];obtain ⟨b',o',e,hc⟩:=h.2 _ x hx
  cases e
  exact ⟨b,o+k,rfl,by rw [Nat.add_assoc];exact hc⟩⟩
theorem Qwv (A1 A2 A3:Option Addr)(n1 c1 n2 c2 n3 c3 g c:Nat)(l1 l2 l3:List Int)(w:World) (hB:Blk w g 64 #[.slice A1 n1 c1,.slice A2 n2 c2,.slice A3 n3 c3]) (h1:RdI w A1 n1 l1) (h2:RdI w A2 n2 l2) (h3:RdI w A3 n3 l3) (b1:n1≤c1) (b2:n2≤c2) (b3:n3≤c3) (m1:c1≤9223372036854775807) (m2:c2≤9223372036854775807) (m3:c3≤9223372036854775807) (hb:n1+n2+n3≤1000000000) :
 Calls prog 85 #[.slice (some ⟨g,0,none⟩) 3 c] w fun e w'=>∃ A' m c',e=.returned (.slice A' m c')∧m≤1000000000∧RdI w' A' m (l1 ++(l2 ++l3))∧m≤c'∧c'≤9223372036854775807∧(∀ g,g<w.heap.size→Qaa A'≠some g)∧RowKit.Below w.heap.size w w':=by
 have hR:RdT w (some ⟨g,0,none⟩) 3 [l1,l2,l3]:=⟨rfl,fun i l hl=>by
  match i,hl with
  | 0,hl=>cases hl;exact ⟨g,0,A1,n1,c1,rfl,Zq hB,h1,b1,m1⟩
  | 1,hl=>cases hl;exact ⟨g,0,A2,n2,c2,rfl,Zq hB,h2,b2,m2⟩
  | 2,hl=>cases hl;exact ⟨g,0,A3,n3,c3,rfl,Zq hB,h3,b3,m3⟩
  | i+3,hl=>simp at hl⟩
 have e:[l1,l2,l3].flatten=l1 ++(l2 ++l3):=by simp
 have l1':=h1.1;have l2':=h2.1;have l3':=h3.1;have hl:[l1,l2,l3].flatten.length≤1000000000:=by rw [e,Yp,Yp];omega
 refine (Qkw (some ⟨g,0,none⟩) 3 c [l1,l2,l3] w hR (by omega) hl).mono ?_;rintro e' w' ⟨A',c',rfl,g1,g2,g3,g4,g5⟩;rw [e] at g1;exact ⟨A',_,c',rfl,hl,by rw [e];exact g1,g2,g3,g4,g5⟩
end Go.Proofs.YtkaaakbejnlbgaaGreatDoor
namespace Go.Proofs.YtkaaakbejnlbgaaGreatDoor
open Go.RowKit Go.Proofs.Tryz
attribute [local go_sem ↓] Go.wp_at_zero Go.wp_at_succ
def OkP (N:Nat)(P:List Int):Prop:=P.Nodup∧∀ s∈P,1≤s∧s≤(N:Int)
theorem OkP.len:∀ {N:Nat}{P:List Int},OkP N P→P.length≤N
 | 0,P,h=>by
  cases P with
  | nil=>exact Zn _
  | cons x t=>have:=h.2 x (List.mem_cons_self ..);omega
 | N+1,P,h=>by
  have h1:OkP N (P.erase ((N+1:Nat):Int)):=⟨h.1.erase _,fun s hs=>by
   have h2:=h.1.mem_erase_iff.1 hs;have:=h.2 s h2.2;omega⟩
  have h2:=h1.len;rw [List.length_erase] at h2;split at h2 <;> omega
theorem OkP.next {N:Nat}{P:List Int}{y:Int}(h:OkP N P)(hy:1≤y∧y≤N)(hn:y ∉ P):OkP N (P ++[y]) :=
 ⟨List.nodup_append.2 ⟨h.1,by simp,fun a ha b hb e=>by simp at hb;subst hb;subst e;exact hn ha⟩,fun s hs=>by
  rcases List.mem_append.1 hs with h1|h1
  · exact h.2 s h1
  · simp at h1;subst h1;exact hy⟩
section
variable {N:Nat} {cap lim:Int} {ls rs:List (List Int)} {st:List (Int×Int)} {l:List Int} {k q:Nat} {y:Int}
theorem Rhm (hl:l∈rs) (h:l=[]∨Qej cap lim ls st l=false):Qea N cap lim ls st rs=false :=
 decide_eq_false fun hr=>by
  have:=hr.1 l hl
  rcases h with h|h
  · exact this.1 h
  · rw [this.2] at h;cases h
theorem Rhl (hl:rs[k]?=some l) (hy:l[q]?=some y) (h:¬(1≤y∧y≤N)∨y∈(rs.take k).flatten ++l.take q):Qea N cap lim ls st rs=false :=
 decide_eq_false fun hr=>by
  obtain ⟨t,ht⟩:=Qzg hl hy
  rcases h with h|h
  · exact h (hr.2.2.1 y (by rw [ht];simp))
  · have:=hr.2.1
    rw [ht,List.nodup_append] at this;exact this.2.2 y h y (List.mem_cons_self ..) rfl
theorem rgt_end (h1:∀ r∈rs,r≠[]∧Qej cap lim ls st r=true) (h2:OkP N rs.flatten):Qea N cap lim ls st rs=((rs.flatten.length:Int) == N):=by by_cases e:rs.flatten.length=N;{rw [show ((rs.flatten.length:Int) == N)=true by simp [e]];exact decide_eq_true ⟨h1,h2.1,h2.2,e⟩};{rw [show ((rs.flatten.length:Int) == N)=false from beq_eq_false_iff_ne.2 (by omega)];exact decide_eq_false fun h=>e h.2.2.2}
end
def Qgf (N:Nat)(bl:List Bool)(P:List Int):Prop:=bl.length=N+1∧∀ s:Nat,s≤N→bl[s]?=some (decide ((s:Int)∈P))
theorem Qgf.start (N:Nat):Qgf N (List.replicate (N+1) false) []:=⟨by simp,fun s hs=>by rw [List.getElem?_replicate,if_pos (by omega)];simp⟩
theorem Qgf.next {N:Nat}{bl:List Bool}{P:List Int}(h:Qgf N bl P){y:Nat}(hy:y≤N):Qgf N (bl.set y true) (P ++[(y:Int)]):=by exact Kbw
theorem Qpa {l:List Int}{q:Nat}{y:Int} (h:l[q]?=some y) (P:List Int):P ++l.take (q+1)=(P ++l.take q) ++[y]:=by rw [List.take_add_one,h,List.append_assoc];rfl
theorem Qix (dep cap lim:Int)(A R T:Option Addr)(n c m d tn tc:Nat) (st:List (Int×Int)) (ls rs:List (List Int)) (w:World) (h:RdP w A n st) (hL:Qtb st) (hr:RdT w R m rs) (ht:RdT w T tn ls) (hs:Sq tn ls) (h0:0<tn) (hn:n≤1000000) (hm:m≤1000000) (hsh:∀ r∈rs,r.length≤1000000) :
 Calls prog 92 #[Qia dep cap lim A n c,.slice T tn tc,.slice R m d] w fun e w'=>e=.returned (.bool (Qea n cap lim ls st rs))∧Below w.heap.size w w':=by
 have HK:=Zh (show ∀ V,Below w.heap.size w V→∀ A' n' c' l,RdI V A' n' l→l∈rs→Calls prog 145 #[Qia dep cap lim A n c,.slice T tn tc,.slice A' n' c'] V fun e w'=>e=.returned (.bool (Qej cap lim ls st l))∧Below V.heap.size V w' from fun V hV A' n' c' l hl hm=>Qzn _ (.inr rfl) dep cap lim A A' T n c n' c' tn tc st l ls V (h.below hV) hL hl (ht.below hV) hs h0 (by omega) (by have:=hl.1;have:=hsh l hm;omega));have HR:=Zh hr;have HM:=Zh hr.1;have HSH:=Zh hsh;have hmk:∀ W,(Instr.makeSlice 123 (.int .i64 ((n:Int)+1)) (.int .i64 ((n:Int)+1))).run prog W=.ok (.slice (some ⟨W.heap.size,0,none⟩) (n+1) (n+1)) (W.alloc (.cells (Qbg (.bool false) (n+1)) 4)):=fun W=>Qki (n+1) (by omega) W
 clear h hL hr ht hs hsh;go_enter func92,ntmps92
 go_wp2_with fail
 (refine Qai ?_;intro w1 hw1);have hb1:Below w.heap.size w w1:=by rw [hw1];exact Qag
 have hB1:Blk w1 w.heap.size 42 #[.int .i64 dep,.int .i64 cap,.int .i64 lim,.slice A n c]:=by rw [hw1];exact Blk.alloc (Blk.new _ _ _) _
 have hB2:Blk w1 (w.heap.size+1) 4 (Qdy (List.replicate (n+1) false)):=by{rw [hw1,Qil];exact Blk.new' _ _ _ (by simp)};clear hw1 hmk
 go_loopw [8,20] (fun a i W=>Below w.heap.size w W∧Blk W w.heap.size 42 #[.int .i64 dep,.int .i64 cap,.int .i64 lim,.slice A n c]∧∃ (k:Nat) (bl:List Bool),k≤m∧i=.int .i64 k∧a=.int .i64 ((rs.take k).flatten.length:Nat) ∧
  Blk W (w.heap.size+1) 4 (Qdy bl)∧Qgf n bl (rs.take k).flatten∧OkP n (rs.take k).flatten∧∀ r∈rs.take k,r≠[]∧Qej cap lim ls st r=true) (fun _ i _=>m-(intOf i).toNat)
 case atStart=>exact ⟨hb1,hB1,0,_,Nat.zero_le _,rfl,rfl,hB2,Qgf.start n,⟨by simp,fun s h=>by simp at h⟩,fun r h=>by simp at h⟩
 case round =>
  clear hb1 hB1 hB2;obtain ⟨hbl,hX,k,bl,hk,rfl,rfl,hY,hse,hok,hgo⟩:=hrel;have HBL:=Zh hbl;have HX:=Zh hX;have HY:=Zh hY;have HSE:=Zh hse;have HOK:=Zh hok;have HGO:=Zh hgo;clear hbl hX hY hse hok hgo;by_cases hlt:k<m
  rotate_left;{(obtain rfl:k=m:=by omega);(have i1:¬(k:Int)<k:=by omega);have ht:rs.take k=rs:=Ye (by rw [HM.out];exact Zn _);rw [ht] at HOK HGO;rw [ht];have HE:=Zh (rgt_end HGO.out HOK.out);have hle:=HOK.out.len;generalize rs.flatten.length=len at *;obtain ⟨x0,x1,x2,x3⟩:=HX.out.four;clear ht;(go_wp2_with fail);go_ret;exact ⟨Qao HE.out.symm,HBL.out⟩};obtain ⟨b,o,A',n',c',l,rfl,hl,hc,hr',_,_⟩:=HR.out.at_ hlt;have HLM:=Zh (Zm hl);have HLL:=Zh hl;have HLN:=Zh hr'.1;have HRR:=Zh hr';have hn6:n'≤1000000:=by have:=HSH.out l HLM.out;have:=HLN.out;omega
  have j1:=Zc HBL.out (Zn _) hc;have i1:(k:Int)<m:=by omega
  have i2:0≤(k:Int):=by omega
  clear hl hc hr';by_cases hne:n'=0;{have HF:=Zh (Rhm (N:=n) (cap:=cap) (lim:=lim) (ls:=ls) (st:=st) HLM.out (.inl (List.length_eq_zero_iff.1 (HLN.out.trans hne))));subst hne;exact Kct};have e0:((n':Int) == 0)=false:=by simp;omega
  have HFL:=Zh (Qda HLL.out)
  have H0:=Zh (show ∃ (q:Nat) (bl:List Bool),q≤n'∧Value.int .i64 0=.int .i64 q∧Value.int .i64 ((rs.take k).flatten.length:Nat)=.int .i64 (((rs.take k).flatten ++l.take q).length:Nat)∧Blk wr (w.heap.size+1) 4 (Qdy bl)∧Qgf n bl ((rs.take k).flatten ++l.take q)∧OkP n ((rs.take k).flatten ++l.take q) from
   ⟨0,bl,Nat.zero_le _,rfl,by simp,HY.out,by simpa using HSE.out,by simpa using HOK.out⟩)
  obtain ⟨P,hP⟩:=Zx ((rs.take k).flatten);rw [←hP] at H0 HFL;obtain ⟨len0,hlen0⟩:∃ z:Nat,z=(rs.take k).flatten.length:=⟨_,rfl⟩;have HPE:=Zh hP;rw [←hP] at hlen0;rw [←hlen0] at H0;rw [←hP,←hlen0];clear hP hlen0 HY HSE HOK;go_wp2_with fail
  go_loopw [8,29] (fun a i W=>Below w.heap.size w W∧Blk W w.heap.size 42 #[.int .i64 dep,.int .i64 cap,.int .i64 lim,.slice A n c]∧∃ (q:Nat) (bl:List Bool),q≤n'∧i=.int .i64 q∧a=.int .i64 ((P ++l.take q).length:Nat) ∧
   Blk W (w.heap.size+1) 4 (Qdy bl)∧Qgf n bl (P ++l.take q)∧OkP n (P ++l.take q)) (fun _ i _=>n'-(intOf i).toNat)
  case atStart=>exact ⟨HBL.out,HX.out,H0.out⟩
  case round =>
   have HB0:=HBL;clear HX H0 HBL j1;obtain ⟨hbl,hX,q,bl,hq,rfl,rfl,hY,hse,hok⟩:=hrel;have HBL:=Zh hbl;have HX:=Zh hX;have HY:=Zh hY;have HSE:=Zh hse;have HOK:=Zh hok;clear hbl hX hY hse hok;(by_cases hlt2:q<n');rotate_left
   · (obtain rfl:q=n':=by omega);(have j2:¬(q:Int)<q:=by omega);(have et:P ++l.take q=(rs.take (k+1)).flatten:=by rw [Ye (by have:=HLN.out;omega),←HFL.out]);rw [et] at HOK HSE;rw [et];have HGB:=Zh (HK.out wr HBL.out _ q c' l (HRR.out.below HBL.out) HLM.out);obtain ⟨x0,x1,x2,x3⟩:=HX.out.four;have hle:=HOK.out.len;obtain ⟨len,hlen⟩:∃ z:Nat,z=(rs.take (k+1)).flatten.length:=⟨_,rfl⟩;have HLE:=Zh hlen;rw [←hlen] at hle;rw [←hlen];clear et hlen;(go_wp2_with fail);(with_reducible refine HGB.out.mono ?_);rintro e w6 ⟨rfl,hb6⟩;have HB6:=Zh (Zb HBL.out hb6);have HX6:=Zh (HX.out.below hb6 HX.out.lt);have HY6:=Zh (HY.out.below hb6 HY.out.lt);clear hb6 x0 x1 x2 x3
     cases hg:Qej cap lim ls st l with
     | false =>have HF:=Zh (Rhm (N:=n) HLM.out (.inr hg));clear hg;(go_wp2_with fail);go_ret;exact ⟨Qao HF.out.symm,HB6.out⟩
     | true =>
      have HGX:=Zh (show ∀ r∈rs.take (k+1),r≠[]∧Qej cap lim ls st r=true from fun r hr=>by
       rw [List.take_add_one,HLL.out] at hr
       rcases List.mem_append.1 hr with h1|h1
       · exact HGO.out r h1
       · simp at h1
         subst h1;exact ⟨fun e=>by have:=HLN.out;rw [e] at this;simp at this;omega,hg⟩)
      clear hg;(go_wp2_with fail);go_roundw;(case rel=>exact ⟨HB6.out,HX6.out,k+1,bl,by omega,by go_num,by rw [HLE.out],HY6.out,HSE.out,HOK.out,HGX.out⟩);case measure=>simp [intOf];omega
   (obtain ⟨b2,o2,y,rfl,hy,hcy⟩:=HRR.out.at_ hlt2;have c1:=Zc HBL.out (Zn _) hcy;have HYQ:=Zh hy;have j1:(q:Int)<n':=by omega);(have j2:0≤(q:Int):=by omega);clear hy hcy;(by_cases g1:y<1);{have HF:=Zh (Rhl (N:=n) (cap:=cap) (lim:=lim) (ls:=ls) (st:=st) HLL.out HYQ.out (.inl (by omega)));exact Kct};by_cases g2:y ≥ (n:Int)+1;{have HF:=Zh (Rhl (N:=n) (cap:=cap) (lim:=lim) (ls:=ls) (st:=st) HLL.out HYQ.out (.inl (by omega)));exact Kct};(obtain ⟨z,rfl⟩:∃ z:Nat,y=z:=⟨y.toNat,by omega⟩;have hz:z≤n:=by omega);(have hsz:=HSE.out.2 z hz;have i5:0≤(z:Int):=by omega);(have i6:(z:Int)<n+1:=by omega);have c2:=HY.out.cellB hsz;by_cases g3:(z:Int)∈P ++l.take q;{have HF:=Zh (Rhl (N:=n) (cap:=cap) (lim:=lim) (ls:=ls) (st:=st) HLL.out HYQ.out (.inr (by rw [←HPE.out];exact g3)));rw [decide_eq_true g3] at c2;clear g3 hsz;exact Kct};rw [decide_eq_false g3] at c2;have f2:=HY.out.frozen z;have HT:=Zh (Qpa HYQ.out P);have HSE2:=Zh (HSE.out.next hz);have HOK2:=Zh (HOK.out.next ⟨by omega,by omega⟩ g3);rw [←HT.out] at HSE2 HOK2;have HN:=Zh (show (P ++l.take (q+1)).length=(P ++l.take q).length+1 by rw [HT.out,Yp,List.length_singleton]);have hle:=HOK.out.len;generalize (P ++l.take q).length=len at *;clear g3 hsz;(go_wp2_with fail);go_roundw;(case rel=>exact ⟨HBL.out.setCell (by simp only;omega) _,HX.out.far_ (by omega) _,q+1,_,by omega,by go_num,by rw [HN.out];go_num,HY.out.setB rfl,HSE2.out,HOK2.out⟩);case measure=>simp [intOf];omega
theorem Qgi (A R:Option Addr)(n c m d:Nat) (ls rs:List (List Int)) (w:World) (h:RdT w A n ls) (hs:Sq n ls) (hn0:0<n) (hr:RdT w R m rs) (hsh:∀ r∈rs,r.length≤1000000) (hm:m≤1000000) :
 Calls prog 45 #[.slice A n c,.slice R m d] w fun e w'=>e=.returned (.int .i64 (Qba ls rs))∧w=w':=by
 have HL:=Zh (fun A' n' c' r (hr:RdI w A' n' r) (hm:n'≤1000000)=>Qgl A A' n c n' c' ls r w h hs hn0 hr (by omega));have HA:=Zh Qiz;have HR:=Zh hr;have HM:=Zh hr.1;clear h hr;go_enter func45,ntmps45
 go_wp2_with fail
 go_loopw [5,10] (fun a i W=>w=W∧∃ k:Nat,k≤m∧i=.int .i64 k∧a=.int .i64 (Qba ls (rs.take k))) (fun _ i _=>m-(intOf i).toNat)
 case atStart=>exact ⟨rfl,0,Nat.zero_le _,rfl,rfl⟩
 case round =>
  obtain ⟨rfl,k,hk,rfl,rfl⟩:=hrel;by_cases hlt:k<m
  {obtain ⟨b,o,A',n',c',l,rfl,hl,hc,hr',_,_⟩:=HR.out.at_ hlt;(have HX:=Zh (Qpe (ls:=ls) hl);have HLX:=Zh (HL.out A' n' c' l hr' (by have:=hr'.1;have:=hsh l (Zm hl);omega));have i1:(k:Int)<m:=by omega);(have i2:0≤(k:Int):=by omega);generalize Qba ls (rs.take k)=x at *;clear hl hr' hsh;(go_wp2_with fail);(with_reducible refine HLX.out.mono ?_);rintro e w' ⟨rfl,rfl⟩;(go_wp2_with fail);(with_reducible refine (HA.out _ _ _).mono ?_);rintro e w' ⟨rfl,rfl⟩;(go_wp2_with fail);go_roundw;(case rel=>exact ⟨by trivial,k+1,by omega,by go_num,by rw [HX.out]⟩);case measure=>simp [intOf];omega};{(obtain rfl:k=m:=by omega);(have i1:¬(k:Int)<k:=by omega);rw [Ye (by rw [HM.out];exact Zn _)];(go_wp2_with fail);go_ret;exact ⟨rfl,by trivial⟩}
structure TrE (V:World) (bd bj:Nat) (dep cap lim:Int) (A T:Option Addr) (n c tc:Nat) (st:List (Int×Int)) (ls:List (List Int)):Prop where
 d:V.cell? ⟨bd,0,none⟩=some (.slice T (n+1) tc)
 j0:V.cell? ⟨bj,0,none⟩=some (.int .i64 dep)
 j1:V.cell? ⟨bj,1,none⟩=some (.int .i64 cap)
 j2:V.cell? ⟨bj,2,none⟩=some (.int .i64 lim)
 j3:V.cell? ⟨bj,3,none⟩=some (.slice A n c)
 st:RdP V A n st
 ls:RdT V T (n+1) ls
def Ko (bl bb:Nat)(b:Nat):Prop:=b≠bl∧b≠bb
structure TrW (W:World) (bl bb:Nat) (ls rs:List (List Int)) (p:List (List Int)×Int):Prop where
 l:Blk W bl 2 #[.int .i64 p.2]
 b:∃ A n c,Blk W bb 27 #[.slice A n c]∧((p.2=Qba ls rs∧p.1=rs∧A=none)∨(p.2<Qba ls rs∧(∃ a,A=some a)∧RdT (msk W (Ko bl bb)) A n p.1))
 ne:bl≠bb
structure AfK (B bl bb:Nat) (W W':World):Prop where
 kept:Qaz (Ko bl bb) W W'
 size:W.heap.size≤W'.heap.size
 bel:Below B W W'
section
variable {V V' W W' W2:World} {B bd bj bl bb:Nat} {dep cap lim:Int} {A T:Option Addr} {n c tc:Nat} {st:List (Int×Int)} {ls rs:List (List Int)} {p:List (List Int)×Int}
theorem TrE.le (h:TrE V bd bj dep cap lim A T n c tc st ls)(hl:Le V V'):TrE V' bd bj dep cap lim A T n c tc st ls :=
 ⟨hl _ _ h.d,hl _ _ h.j0,hl _ _ h.j1,hl _ _ h.j2,hl _ _ h.j3,h.st.le hl,h.ls.le hl⟩
theorem AfK.refl (B bl bb:Nat)(W:World):AfK B bl bb W W:=⟨Qaz.refl _ _,Zn _,Zr _ _⟩
theorem AfK.trans (h:AfK B bl bb W W')(g:AfK B bl bb W' W2):AfK B bl bb W W2:=⟨h.kept.trans g.kept h.size,Yx h.size g.size,h.bel.trans g.bel⟩
theorem AfK.below (hb:Below W.heap.size W W')(hB:B≤W.heap.size):AfK B bl bb W W':=⟨Qaz.below hb,hb.size,hb.mono hB⟩
theorem TrW.below (h:TrW W bl bb ls rs p)(hb:Below W.heap.size W W'):TrW W' bl bb ls rs p:=by obtain ⟨A,n,c,h1,h2⟩:=h.b;exact ⟨h.l.below hb h.l.lt,⟨A,n,c,h1.below hb h1.lt,h2.imp id fun ⟨g1,g2,g3⟩=>⟨g1,g2,g3.le (Qaz.msk (Qaz.below hb))⟩⟩,h.ne⟩
theorem TrW.le (h:TrW W bl bb ls rs p):p.2≤Qba ls rs:=by
 obtain ⟨A,n,c,_,h2⟩:=h.b;rcases h2 with h2|h2
 {omega};{omega}
theorem TrW.put {R:Option Addr}{m d:Nat} {cs:List (List Int)} (h:TrW W bl bb ls rs p) (hR:RdT (msk W (Ko bl bb)) R m cs) (hn:∃ a,R=some a) (hl:Qba ls cs<p.2) :
 TrW ((W.setCell ⟨bl,0,none⟩ (.int .i64 (Qba ls cs))).setCell ⟨bb,0,none⟩ (.slice R m d)) bl bb ls rs (cs,Qba ls cs):=by have hle:=h.le;obtain ⟨A,n,c,h1,_⟩:=h.b;refine ⟨Blk.far_ (h.l.set_ 0 _) h.ne _,⟨R,m,d,(h1.far_ (fun e=>h.ne e.symm) _).set_ 0 _,.inr ⟨by simp only;omega,hn,hR.le (Qaz.msk ((Qaz.set _ _ _ _ (fun h=>h.1 rfl)).trans (Qaz.set _ _ _ _ (fun h=>h.2 rfl)) (by simp [World.setCell])))⟩⟩,h.ne⟩
end
theorem Qzf (w:World)(B bd bl bj bb:Nat)(dep cap lim:Int)(A T:Option Addr)(n c tc:Nat) (st:List (Int×Int)) (ls rs:List (List Int)) (p:List (List Int)×Int) (a:Addr) (m d:Nat) (cs:List (List Int)) (hE:TrE (msk w (Ko bl bb)) bd bj dep cap lim A T n c tc st ls) (hL:Qtb st) (hs:Sq (n+1) ls) (hn:n≤1000000) (hW:TrW w bl bb ls rs p) (hR:RdT (msk w (Ko bl bb)) (some a) m cs) (hm:m≤1000000) (hsh:∀ r∈cs,r.length≤1000000) (hB:B≤bl∧B≤bb∧B≤w.heap.size) :
 Calls prog 146 #[.slice (some a) m d,.pointer (some ⟨bd,0,none⟩),.pointer (some ⟨bl,0,none⟩),.pointer (some ⟨bj,0,none⟩),.pointer (some ⟨bb,0,none⟩)] w fun e w'=>e=.returned (.tuple #[])∧TrW w' bl bb ls rs (Rdc n cap lim ls st p cs)∧AfK B bl bb w w':=by
 have he:=hE.le (Qan _ _);have HT:=Zh (Qgi T (some a) (n+1) tc m d ls cs w he.ls hs (by omega) (hR.le (Qan _ _)) hsh hm);have HRT:=Zh (Qix dep cap lim A (some a) T n c m d (n+1) tc st ls cs w he.st hL (hR.le (Qan _ _)) he.ls hs (by omega) hn hm hsh);have HW:=Zh hW;have HR:=Zh hR;have HB:=Zh hB;obtain ⟨A0,n0,c0,hb0,_⟩:=hW.b;have HBB:=Zh hb0;have e0:=he.d;have e1:=he.j0;have e2:=he.j1;have e3:=he.j2;have e4:=he.j3;have l0:w.cell? ⟨bl,0,none⟩=some (.int .i64 p.2):=Zq hW.l;obtain ⟨tot,htot⟩:∃ t,t=Qba ls cs:=⟨_,rfl⟩;obtain ⟨lst,hlst⟩:∃ t,t=p.2:=⟨_,rfl⟩;have HTT:=Zh htot;have HLS:=Zh hlst;rw [←htot] at HT;rw [←hlst] at l0;clear hE hs hW hR hB hb0 he htot hlst;go_enter func146,ntmps146
 go_wp2_with fail
 with_reducible refine HT.out.mono ?_
 rintro e w' ⟨rfl,rfl⟩;by_cases g:tot<lst
 rotate_left;{have HP:=Zh (show Rdc n cap lim ls st p cs=p by unfold Rdc;rw [if_neg (fun h=>g (by rw [HTT.out,HLS.out];exact h.1))]);(go_wp2_with fail);go_end0;exact ⟨rfl,by rw [HP.out];exact HW.out,AfK.refl _ _ _ _⟩}
 cases hr:Qea n cap lim ls st cs with
 | false =>
  have HP:=Zh (show Rdc n cap lim ls st p cs=p by unfold Rdc;rw [if_neg (fun h=>by rw [hr] at h;exact absurd h.2 (by decide))]);rw [hr] at HRT;clear hr;go_wp2_with fail
  with_reducible refine HRT.out.mono ?_
  rintro e w2 ⟨rfl,hb2⟩;have HB2:=Zh hb2;clear hb2 e0 e1 e2 e3 e4 l0;go_wp2_with fail
  go_end0;exact ⟨rfl,by rw [HP.out];exact HW.out.below HB2.out,AfK.below HB2.out HB.out.2.2⟩
 | true =>
  have HP:=Zh (show Rdc n cap lim ls st p cs=(cs,Qba ls cs) by unfold Rdc;rw [if_pos ⟨by rw [←HTT.out,←HLS.out];exact g,hr⟩]);have HG:=Zh (show Qba ls cs<p.2 by rw [←HTT.out,←HLS.out];exact g);rw [hr] at HRT;clear hr;go_wp2_with fail
  with_reducible refine HRT.out.mono ?_
  rintro e w2 ⟨rfl,hb2⟩;have HB2:=Zh hb2;have HW2:=Zh (HW.out.below hb2);have hl2:=HW2.out.l;have hb20:=HBB.out.below hb2 HBB.out.lt;have k0:w2.cell? ⟨bl,0,none⟩=some (.int .i64 p.2):=Zq hl2;have k1:=hl2.frozen 0;have k2:w2.cell? ⟨bb,0,none⟩=some (.slice A0 n0 c0):=Zq hb20;have k3:=hb20.frozen 0;have k4:¬bl=bb:=HW2.out.ne;clear hb2 hl2 hb20 e0 e1 e2 e3 e4 l0;go_wp2_with fail
  go_end0;refine ⟨rfl,?_,?_⟩;{rw [HP.out,HTT.out];exact HW2.out.put (HR.out.le (Qaz.msk (Qaz.below HB2.out))) ⟨_,rfl⟩ HG.out};{refine (AfK.below HB2.out HB.out.2.2).trans ⟨(Qaz.set _ _ _ _ (fun h=>h.1 rfl)).trans (Qaz.set _ _ _ _ (fun h=>h.2 rfl)) (by simp [World.setCell]),by simp [World.setCell],((Zr _ _).setCell (by simp only;exact HB.out.1) _).setCell (by simp only;exact HB.out.2.1) _⟩}
def flR (n:Nat)(cap lim:Int) (ls:List (List Int)) (st:List (Int×Int)) (p:List (List Int)×Int) (l:List (List (List Int))):List (List Int)×Int:=l.foldl (Rdc n cap lim ls st) p
section
variable {n:Nat} {cap lim:Int} {ls:List (List Int)} {st:List (Int×Int)} {p:List (List Int)×Int}
theorem Qhe (l k:List (List (List Int))):flR n cap lim ls st p (l ++k)=flR n cap lim ls st (flR n cap lim ls st p l) k:=List.foldl_append
theorem Qxa (c:List (List Int)):flR n cap lim ls st p [c]=Rdc n cap lim ls st p c:=rfl
end
theorem Rbi (w:World)(B bd bl bj bb:Nat)(dep cap lim:Int)(A T:Option Addr)(n c tc:Nat) (st:List (Int×Int)) (ls rs:List (List Int)) (p:List (List Int)×Int) (a0:Addr) (m d:Nat) (hE:TrE (msk w (Ko bl bb)) bd bj dep cap lim A T n c tc st ls) (hL:Qtb st) (hs:Sq (n+1) ls) (hn:n≤1000000) (hW:TrW w bl bb ls rs p) (hR:RdT (msk w (Ko bl bb)) (some a0) m rs) (hm:m≤1000) (hsh:∀ r∈rs,r.length≤1000) (hB:B≤bl∧B≤bb∧B≤w.heap.size) :
 Calls prog 147 #[.slice (some a0) m d,.func (.func 146) #[] #[.pointer (some ⟨bd,0,none⟩),.pointer (some ⟨bl,0,none⟩),.pointer (some ⟨bj,0,none⟩),.pointer (some ⟨bb,0,none⟩)]] w fun e w'=>e=.returned (.tuple #[])∧TrW w' bl bb ls rs (flR n cap lim ls st p (Qme rs m))∧AfK B bl bb w w':=by
 have hml:=hR.1;have hbb0:∀ V,TrW V bl bb ls rs p→bl<V.heap.size∧bb<V.heap.size:=fun V h=>⟨h.l.lt,by obtain ⟨_,_,_,h1,_⟩:=h.b;exact h1.lt⟩
 have HKN:=Zh (show ∀ b,w.heap.size≤b→Ko bl bb b from fun b hb=>⟨by have:=(hbb0 w hW).1;omega,by have:=(hbb0 w hW).2;omega⟩);have HTR:=Zh (fun W (hA:AfK B bl bb w W) P (hP:TrW W bl bb ls rs P) a' m' d' cs hcs hm' hsh'=>Qzf W B bd bl bj bb dep cap lim A T n c tc st ls rs P a' m' d' cs (hE.le (Qaz.msk hA.kept)) hL hs hn hP hcs hm' hsh' ⟨hB.1,hB.2.1,Yx hB.2.2 hA.size⟩);have HR:=Zh hR;have HW:=Zh hW;have HSH:=Zh hsh;have HB:=Zh hB;have HML:=Zh hml;clear hE hs hW hR hsh hB hml hbb0;go_enter func147,ntmps147
 go_wp2_with fail
 go_loopw [12] (fun q W=>∃ i:Nat,i≤m∧q=.int .i64 i∧TrW W bl bb ls rs (flR n cap lim ls st p (Qme rs i))∧AfK B bl bb w W) (fun q _=>m-(intOf q).toNat)
 case atStart=>exact ⟨0,Nat.zero_le _,rfl,HW.out,AfK.refl _ _ _ _⟩
 case round =>
  clear HW;obtain ⟨i,hi,rfl,hw,ha⟩:=hrel;have HWi:=Zh hw;have HAi:=Zh ha;clear hw ha;by_cases hlt:i<m
  rotate_left;{(obtain rfl:i=m:=by omega);(have i1:¬(i:Int)<i:=by omega);(go_wp2_with fail);go_end0;exact ⟨rfl,HWi.out,HAi.out⟩};obtain ⟨b0,o0,A1,n1,c1,l,e0,hl,hc,hr,hnc,hcm⟩:=HR.out.at_ hlt;cases e0;have hc0:=Qan _ _ _ _ (Qaz.msk HAi.out.kept _ _ hc);have HL:=Zh hl;have HRL:=Zh hr;have hn1:n1≤1000:=by have:=HSH.out l (Zm hl);have:=hr.1;omega
  have HLN:=Zh hr.1;have HGD:=Zh (show rs.getD i []=l by rw [Ya,hl];rfl);have HT3:=Zh (Qyv rs i);rw [HGD.out,HLN.out] at HT3;obtain ⟨P0,hP0⟩:=Zx (flR n cap lim ls st p (Qme rs i));rw [←hP0] at HWi;have HP0:=Zh hP0;have i1:(i:Int)<m:=by omega
  have i2:0≤(i:Int):=by omega
  clear hl hc hr hP0;go_wp2_with fail
  go_loopw [19] (fun q W=>∃ k:Nat,k≤n1∧q=.int .i64 k∧TrW W bl bb ls rs (flR n cap lim ls st P0 (Qpg rs i k))∧AfK B bl bb w W) (fun q _=>n1-(intOf q).toNat)
  case atStart=>exact ⟨0,Nat.zero_le _,rfl,HWi.out,HAi.out⟩
  case round =>
   clear HWi HAi hc0;obtain ⟨k,hk,rfl,hw,ha⟩:=hrel;have HWk:=Zh hw;have HAk:=Zh ha;clear hw ha;(by_cases hlt1:k<n1);rotate_left;{(obtain rfl:k=n1:=by omega);(have j1:¬(k:Int)<k:=by omega);have HWX:=HWk;rw [HP0.out,←Qhe,←HT3.out] at HWX;exact Kdg};(obtain ⟨P1,hP1⟩:=Zx (flR n cap lim ls st P0 (Qpg rs i k));rw [←hP1] at HWk;have HP1:=Zh hP1;have HT2:=Zh (Qyu rs i k);rw [HGD.out,HLN.out] at HT2;have j1:(k:Int)<n1:=by omega);have wk:IntKind.i64.wrap ((k:Int)+1)=(k:Int)+1:=IntWalk.i64_in _ (by omega);have HW0:=Zh (show ∃ b x:Nat,b=k+1+x∧b≤n1∧Value.int .i64 ((k:Int)+1)=.int .i64 b∧TrW wr bl bb ls rs (flR n cap lim ls st P1 (Qpf rs i k x))∧AfK B bl bb w wr from ⟨k+1,0,by omega,by omega,by go_num,HWk.out,HAk.out⟩);clear hP1;(go_wp2_with fail);(go_loopw [7] (fun q W=>∃ b x:Nat,b=k+1+x∧b≤n1∧q=.int .i64 b∧TrW W bl bb ls rs (flR n cap lim ls st P1 (Qpf rs i k x))∧AfK B bl bb w W) (fun q _=>n1-(intOf q).toNat));case atStart=>exact HW0.out
   case round =>
    clear HW0 HWk HAk;obtain ⟨b,x,hbx,hb,rfl,hw,ha⟩:=hrel;have HBX:=Zh hbx;have HWb:=Zh hw;have HAb:=Zh ha;clear hbx hw ha;(by_cases hlt2:b<n1);rotate_left;{(obtain rfl:b=n1:=by omega);(have j2:¬(b:Int)<b:=by omega);have HWX:=HWb;rw [show x=b-(k+1) by have:=HBX.out;omega,HP1.out,←Qhe,←HT2.out] at HWX;(go_wp2_with fail);go_roundw;(case rel=>exact ⟨k+1,by omega,by go_num,HWX.out,HAb.out⟩);case measure=>simp [intOf];omega};(have j2:(b:Int)<n1:=by omega);have hle:=Zh (Qaz.msk HAb.out.kept);have HCL:=Zh (Qkv A1 n1 c1 (Qae l) wr ((HRL.out.le hle.out).le (Qan _ _)).rdsI (Qaq _) (by omega));have HRb:=Zh (HR.out.le hle.out);(go_wp2_with fail);(with_reducible refine HCL.out.mono ?_);(rintro e w1 ⟨A2,c2,rfl,ho1,hb1⟩;obtain ⟨g,cur,rfl,hBg,_,hnc2,_,_⟩:=ho1.block (by omega);have HB1:=Zh hb1;have hcm2:=ho1.capMax;have hab:k≤b:=by have:=HBX.out;omega);(have HRV:=Zh (Rhk g n1 c2 k b (c2-k) wr.heap.size l w1 ho1 hab hlt2 hb1.size (by omega));have j3:0≤(k:Int):=by omega);(have j4:(k:Int)≤b+1:=by omega);(have j5:(b:Int)+1≤c2:=by omega);have wb:IntKind.i64.wrap ((b:Int)+1)=(b:Int)+1:=IntWalk.i64_in _ (by omega);have hKg:Ko bl bb g:=HKN.out g (by have:=HAb.out.size;omega);have HKG:=Zh hKg;clear ho1 hb1 HCL hKg;(go_wp2_with fail);(with_reducible refine HRV.out.mono ?_);rintro e w2 ⟨rfl,ho2,hb2⟩;have HO2:=Zh ho2;have hb02:=HB1.out.trans hb2;have HB2:=Zh hb02;have HCM:=Zh (Qqg ⟨b0,o0,none⟩ m d rs w2 (Ko bl bb) (HRb.out.le (Qaz.msk (Qaz.below hb02))) (by omega) (by omega));clear ho2 hb2 hb02 HRV HB1 HRb;(go_wp2_with fail);(with_reducible refine HCM.out.mono ?_);rintro e w3 ⟨g3,N3,rfl,hg3,hm3,hN3,hN9,hb3⟩;obtain ⟨_,_,_,q0,q1,_,_,_⟩:=hm3.cellAt (i:=i) (by rw [HML.out];exact hlt);have hgl:=(HO2.out.lt g rfl).2;have HG3:=Zh (show wr.heap.size≤g3∧g≠g3 from ⟨Yx HB2.out.size hg3,by omega⟩);have HM4:=Zh (hm3.set (i:=i) (c:=c2) (by rw [HML.out];exact hlt) (((HO2.out.below hb3).rds.rdI).msk (G:=fun b=>Ko bl bb b∧b≠g3) (fun b hb=>by cases hb;exact ⟨HKG.out,HG3.out.2⟩)) hnc2 hcm2);have HB3:=Zh ((HB2.out.trans (hb3.mono HB2.out.size)).setCell (p:=⟨g3,i,none⟩) (by simp only;exact HG3.out.1) (.slice (some ⟨g,0,none⟩) n1 c2));clear hg3 hm3 hb3 hgl HCM HO2 HB2;(go_wp2_with fail);(refine Qab ?_;intro w4 hw4);rw [←hw4] at HM4 HB3;clear hw4 q0 q1;have HT1:=Zh (Qyt rs i k x);have hcs:turnR rs i k (k+1+x)=rs.set i (segR l k b):=by{unfold turnR;rw [HGD.out,←HBX.out]};rw [hcs] at HT1;have HA4:=Zh (HAb.out.trans (AfK.below HB3.out (Yx HB.out.2.2 HAb.out.size)));have HRM:=Zh (HM4.out.rdT (HKN.out g3 (Yx HAb.out.size HG3.out.1)));rw [Yq,HML.out] at HRM
    have HTY:=Zh (HTR.out w4 HA4.out _ (HWb.out.below HB3.out) ⟨g3,0,none⟩ m N3 _ HRM.out (by omega) (fun r hr=>by
     rcases List.mem_or_eq_of_mem_set hr with h1|h1
     · have:=HSH.out r h1;omega
     · rw [h1,Qmz hab (by rw [HLN.out];exact hlt2),HLN.out];omega))
    (rw [←Qxa,←Qhe,←HT1.out] at HTY;clear hcs HM4 HRM;with_reducible refine HTY.out.mono ?_);rintro e w5 ⟨rfl,hw5,ha5⟩;have HW5:=Zh hw5;have HA5:=Zh (HA4.out.trans ha5);clear hw5 ha5 HTY HA4 HB3;(go_wp2_with fail);go_roundw;(case rel=>exact ⟨b+1,x+1,by have:=HBX.out;omega,by omega,by go_num,HW5.out,HA5.out⟩);case measure=>simp [intOf];omega
