/- Parts of the proof: RoP, RfI, RoQ, RfC, RoM, RoR. -/
import Derived.Test.YteaoiabikjnkeaaGreatDoorP1
import Derived.Test.YteaoiabikjnkeaaGreatDoorP3
import Derived.Test.YteaoiabikjnkeaaGreatDoorP6
import Derived.Test.YteaoiabikjnkeaaGreatDoorP7
import Derived.Test.YteaoiabikjnkeaaGreatDoorP12
namespace Go.Proofs.YteaoiabikjnkeaaGreatDoor
open Go.RowKit Tryz
structure BfI (N:Qao) (mk:List Bool) (s t:Nat) (d:List Int) (best:Int):Prop where
 len:d.length=N.ar.length
 ok:∀ (b:Nat) (v:Int),d[b]?=some v→v=1152921504606846976∨(0≤v∧v<1152921504606846976∧∃ p c e,Rch (StA N mk) s p c∧StA N mk p b e∧v=c+e)
 best:best=1152921504606846976∨(0≤best∧best<1152921504606846976∧Qto (StA N mk) (OuA N) s t best)
def dAt (d:List Int)(a:Nat):Int:=d.getD a 1152921504606846976
theorem Qea {d:List Int}{a:Nat}{v:Int} (h:d[a]?=some v):dAt d a=v:=by unfold dAt;rw [List.getD_eq_getElem?_getD,h];rfl
theorem BfI.at_ {N:Qao}{mk:List Bool}{s t:Nat}{d:List Int}{best:Int}(h:BfI N mk s t d best)(a:Nat):dAt d a=1152921504606846976∨(0≤dAt d a∧dAt d a<1152921504606846976∧∃ c,dAt d a=c∧Rch (StA N mk) s a c):=by
 cases e:d[a]? with
 | none=>left;unfold dAt;rw [List.getD_eq_getElem?_getD,e];rfl
 | some v =>
  rw [Qea e]
  rcases h.ok a v e with h1|⟨h1,h2,p,c,f,h3,h4,rfl⟩
  · exact .inl h1
  · exact .inr ⟨h1,h2,_,rfl,h3.step h4⟩
theorem BfI.start (N:Qao)(mk:List Bool)(s t:Nat):BfI N mk s t (List.replicate N.ar.length 1152921504606846976) 1152921504606846976 :=
 ⟨by simp,fun b v h=>by obtain ⟨_,e⟩:=Zs h;simp at e;exact .inl e.symm,.inl rfl⟩
section
variable {N:Qao} {mk:List Bool} {s t:Nat} {d:List Int} {best:Int}
theorem BfI.less (h:BfI N mk s t d best){p b:Nat}{c e:Int} (hp:Rch (StA N mk) s p c) (hc:0≤c) (hs:StA N mk p b e) (he:0≤e) (hlt:c+e<dAt d b):BfI N mk s t (d.set b (c+e)) best:=by
 refine ⟨by rw [List.length_set];exact h.len,fun q v hq=>?_,h.best⟩
 by_cases hb:b=q
 · subst hb
   by_cases hl:b<d.length
   · rw [List.getElem?_set_self hl] at hq
     cases hq
     have:=h.at_ b
     right
     exact ⟨by omega,by rcases this with h1|⟨_,h1,_⟩ <;> omega,p,c,e,hp,hs,rfl⟩
   · rw [List.getElem?_eq_none (by rw [List.length_set];omega)] at hq
     cases hq
 · rw [List.getElem?_set_ne hb] at hq
   exact h.ok q v hq
theorem BfI.out (h:BfI N mk s t d best){p:Nat}{c e:Int} (hp:Rch (StA N mk) s p c) (hc:0≤c) (ho:OuA N p t e) (he:0≤e) (hlt:c+e<best):BfI N mk s t d (c+e) :=
 ⟨h.len,h.ok,.inr ⟨by omega,by rcases h.best with h1|⟨_,h1,_⟩ <;> omega,p,c,e,hp,ho,rfl⟩⟩
theorem BfI.done (hok:Qat N)(h:BfI N mk s t d best)(h0:∀ b e,StA N mk s b e→dAt d b≤e)(hT:∀ e,OuA N s t e→best≤e)
 (hR:∀ a,dAt d a<1152921504606846976→(∀ b e,StA N mk a b e→dAt d b≤dAt d a+e)∧∀ e,OuA N a t e→best≤dAt d a+e):Qfu N mk s t best:=by
 have hle:∀ b,dAt d b≤1152921504606846976:=fun b=>by rcases h.at_ b with h1|⟨_,h1,_⟩ <;> omega
 have hble:best≤1152921504606846976:=by rcases h.best with h1|⟨_,h1,_⟩ <;> omega
 have hlow:∀ p c,Rch (StA N mk) s p c→(p=s∧c=0)∨dAt d p≤c:=by
  intro p c hr
  induction hr with
  | start=>exact .inl ⟨rfl,rfl⟩
  | @step p q c e h1 h2 ih =>
   right
   rcases ih with ⟨rfl,rfl⟩|ih
   · have:=h0 q e h2;omega
   · have he:=(h2.bd hok).1
     by_cases hlt:dAt d p<1152921504606846976
     · have:=(hR p hlt).1 q e h2;omega
     · have:=hle q;omega
 have hout:∀ v,Qto (StA N mk) (OuA N) s t v→best≤v:=by
  rintro v ⟨p,c,e,h1,h2,rfl⟩;have he:=(h2.bd hok).1
  rcases hlow p c h1 with ⟨rfl,rfl⟩|hlt
  · have:=hT e h2;omega
  · by_cases hlt2:dAt d p<1152921504606846976
    · have:=(hR p hlt2).2 e h2;omega
    · omega
 rcases h.best with h1|⟨_,_,h1⟩
 · right
   refine ⟨h1,fun v hv=>?_⟩;obtain ⟨p,c,e,g1,g2,rfl⟩:=hv;obtain ⟨c',g3,g4⟩:=Qgx hok p c g1;have g5:=hout (c'+e) ⟨p,c',e,g3,g2,rfl⟩;have g6:=(g2.bd hok).2;unfold MB at g4;omega
 · exact .inl ⟨h1,hout⟩
end
attribute [local go_sem ↓] Go.wp_at_zero Go.wp_at_succ
set_option maxHeartbeats 1000000 in
theorem Qur (A B C:Option Addr)(n m k c d e:Nat)(N:Qao)(v:Int)(w:World)(h:Qby w A B C n m k N)(hm:m≤16384) :
 Calls prog 141 #[.agg #[.slice A n c,.slice B m d,.slice C k e],.int .i64 v] w fun r w'=>∃ A' n' c',r=.returned (.slice A' n' c')∧RdI w' A' n' (idx (·.2.1) N.ar v)∧Below w.heap.size w w':=by
 have HH:=Zh h;have HM:=Zh h.2.1.1;clear h
 go_enter func141,ntmps141
 go_wp2_with fail
 (refine Qai ?_;intro w1 hw1)
 have hb1:Below w.heap.size w w1:=by rw [hw1];exact Qah
 have hX:Blk w1 w.heap.size 26 #[.slice A n c,.slice B m d,.slice C k e]:=by rw [hw1];exact Blk.new _ _ _
 clear hw1
 go_loopw [5,6] (fun z q V=>∃ (i:Nat) (A':Option Addr) (c':Nat),i≤m∧q=.int .i64 i∧z=.slice A' (idx (·.2.1) (N.ar.take i) v).length c'∧Own V w1.heap.size 3 1 A' (idx (·.2.1) (N.ar.take i) v).length c' (Qag (idx (·.2.1) (N.ar.take i) v))∧Below w1.heap.size w1 V) (fun _ q _=>m-(intOf q).toNat)
 case atStart=>exact ⟨0,none,0,Nat.zero_le _,rfl,rfl,Own.nil _ _ _ _,Zr _ _⟩
 case round =>
  obtain ⟨i,A',c',hi,rfl,rfl,hown,hbl⟩:=hrel;have hXr:=hX.below hbl hX.lt;have x1:=hXr.cell 1;have xl:=hXr.lt;simp only [List.getElem?_toArray,List.getElem?_cons_zero,List.getElem?_cons_succ] at x1;have hbd:=Qem (·.2.1) N.ar i v;have HOW:=Zh hown;obtain ⟨no,hno⟩:∃ no,no=(idx (·.2.1) (N.ar.take i) v).length:=⟨_,rfl⟩;rw [←hno] at hbd ⊢;have HNO:=Zh hno;clear hown hno
  by_cases hlt:i<m
  rotate_left
  · obtain rfl:i=m:=by omega
    have i1:¬((i:Int)<(i:Int)):=by omega
    go_wp2_with fail
    go_ret
    refine ⟨A',no,⟨c',rfl⟩,?_,Zb hb1 hbl⟩;have:=HOW.out.rds.rdI;rw [List.take_of_length_le (by rw [HM.out];exact Zn _)] at this;rw [HNO.out,List.take_of_length_le (by rw [HM.out];exact Zn _)];exact this
  · have hbw:=Zb hb1 hbl
    obtain ⟨y,hy⟩:∃ y,N.ar[i]?=some y:=⟨_,Zg (by rw [HM.out];exact hlt)⟩;obtain ⟨b,o,rfl,c0,c1,c2⟩:=(HH.out.below hbw).2.1.2 i y hy;have HY:=Zh hy;have i1:(i:Int)<(m:Int):=by omega
    have i2:(0:Int)≤(i:Int):=by omega
    clear hy
    by_cases hv:y.2.1=v
    · have e1:(y.2.1 == v)=true:=by simpa using hv
      have hown2:=HOW.out;rw [←HNO.out] at hown2;obtain ⟨W2,hW2⟩:∃ W2,W2=wr.alloc (.cells #[.int .i64 i] 3):=⟨_,rfl⟩;have hown3:Own W2 w1.heap.size 3 1 A' no c' (Qag (idx (·.2.1) (N.ar.take i) v)):=by rw [hW2];exact hown2.alloc _
      have hrd:Rds W2 1 (some ⟨wr.heap.size,0,none⟩) 1 (Qag [(i:Int)]):=by rw [hW2];exact (Blk.new wr 3 #[.int .i64 i]).rds rfl
      have hba:Below w1.heap.size w1 W2:=by rw [hW2];exact Below.alloc hbl hbl.size _
      have hsz:w1.heap.size≤W2.heap.size:=hba.size;have HW2:=Zh hW2;have HE:=Zh hv;clear hW2 hown2 hv
      go_wp2_with (at_builtin;rw [←HW2.out];with_reducible refine Qap rfl (.tmp 22) (.tmp 24) 67 rfl 3 _ 1 8 Qaz underlying67 rfl (by omega) rfl rfl hown3 hrd (Qaj _) (by omega) (by omega) hsz ?_)
      intro A3 c3 w8 ho8 hg8 _;have hb8:Below w1.heap.size w1 w8:=Bel.grownOwn hba hg8 hown3 hsz;have HO8:=Zh (show Own w8 w1.heap.size 3 1 A3 (no+1) c3 (Qag (idx (·.2.1) (N.ar.take (i+1)) v)) by rw [Qel HY.out,e1,if_pos rfl,Qbn];exact ho8)
      have HN1:=Zh (show (idx (·.2.1) (N.ar.take (i+1)) v).length=no+1 by rw [Qel HY.out,e1,if_pos rfl,List.length_append,←HNO.out];rfl)
      clear hown3 hrd hba hsz ho8 hg8
      go_wp2_with fail
      go_roundw
      case rel=>exact ⟨i+1,A3,c3,by omega,by go_num,by rw [HN1.out],by rw [HN1.out];exact HO8.out,hb8⟩
      case measure=>simp [intOf];omega
    · have e1:(y.2.1 == v)=false:=by simpa using hv
      have HN1:=Zh (show idx (·.2.1) (N.ar.take (i+1)) v=idx (·.2.1) (N.ar.take i) v by rw [Qel HY.out,e1];simp)
      have HE:=Zh hv;clear hv
      go_wp2_with fail
      go_roundw
      case rel=>exact ⟨i+1,A',c',by omega,by go_num,by rw [HN1.out,HNO.out],by rw [HN1.out];exact HOW.out,hbl⟩
      case measure=>simp [intOf];omega
set_option maxHeartbeats 1000000 in
theorem Qqy (A B C:Option Addr)(n m k c d e:Nat)(N:Qao)(v:Int)(w:World)(h:Qby w A B C n m k N)(hm:m≤16384) :
 Calls prog 142 #[.agg #[.slice A n c,.slice B m d,.slice C k e],.int .i64 v] w fun r w'=>∃ A' n' c',r=.returned (.slice A' n' c')∧RdI w' A' n' (idx (·.1) N.ar v)∧Below w.heap.size w w':=by
 have HH:=Zh h;have HM:=Zh h.2.1.1;clear h
 go_enter func142,ntmps142
 go_wp2_with fail
 (refine Qai ?_;intro w1 hw1)
 have hb1:Below w.heap.size w w1:=by rw [hw1];exact Qah
 have hX:Blk w1 w.heap.size 26 #[.slice A n c,.slice B m d,.slice C k e]:=by rw [hw1];exact Blk.new _ _ _
 clear hw1
 go_loopw [5,6] (fun z q V=>∃ (i:Nat) (A':Option Addr) (c':Nat),i≤m∧q=.int .i64 i∧z=.slice A' (idx (·.1) (N.ar.take i) v).length c'∧Own V w1.heap.size 3 1 A' (idx (·.1) (N.ar.take i) v).length c' (Qag (idx (·.1) (N.ar.take i) v))∧Below w1.heap.size w1 V) (fun _ q _=>m-(intOf q).toNat)
 case atStart=>exact ⟨0,none,0,Nat.zero_le _,rfl,rfl,Own.nil _ _ _ _,Zr _ _⟩
 case round =>
  obtain ⟨i,A',c',hi,rfl,rfl,hown,hbl⟩:=hrel;have hXr:=hX.below hbl hX.lt;have x1:=hXr.cell 1;have xl:=hXr.lt;simp only [List.getElem?_toArray,List.getElem?_cons_zero,List.getElem?_cons_succ] at x1;have hbd:=Qem (·.1) N.ar i v;have HOW:=Zh hown;obtain ⟨no,hno⟩:∃ no,no=(idx (·.1) (N.ar.take i) v).length:=⟨_,rfl⟩;rw [←hno] at hbd ⊢;have HNO:=Zh hno;clear hown hno
  by_cases hlt:i<m
  rotate_left
  · obtain rfl:i=m:=by omega
    have i1:¬((i:Int)<(i:Int)):=by omega
    go_wp2_with fail
    go_ret
    refine ⟨A',no,⟨c',rfl⟩,?_,Zb hb1 hbl⟩;have:=HOW.out.rds.rdI;rw [List.take_of_length_le (by rw [HM.out];exact Zn _)] at this;rw [HNO.out,List.take_of_length_le (by rw [HM.out];exact Zn _)];exact this
  · have hbw:=Zb hb1 hbl
    obtain ⟨y,hy⟩:∃ y,N.ar[i]?=some y:=⟨_,Zg (by rw [HM.out];exact hlt)⟩;obtain ⟨b,o,rfl,c0,c1,c2⟩:=(HH.out.below hbw).2.1.2 i y hy;have HY:=Zh hy;have i1:(i:Int)<(m:Int):=by omega
    have i2:(0:Int)≤(i:Int):=by omega
    clear hy
    by_cases hv:y.1=v
    · have e1:(y.1 == v)=true:=by simpa using hv
      have hown2:=HOW.out;rw [←HNO.out] at hown2;obtain ⟨W2,hW2⟩:∃ W2,W2=wr.alloc (.cells #[.int .i64 i] 3):=⟨_,rfl⟩;have hown3:Own W2 w1.heap.size 3 1 A' no c' (Qag (idx (·.1) (N.ar.take i) v)):=by rw [hW2];exact hown2.alloc _
      have hrd:Rds W2 1 (some ⟨wr.heap.size,0,none⟩) 1 (Qag [(i:Int)]):=by rw [hW2];exact (Blk.new wr 3 #[.int .i64 i]).rds rfl
      have hba:Below w1.heap.size w1 W2:=by rw [hW2];exact Below.alloc hbl hbl.size _
      have hsz:w1.heap.size≤W2.heap.size:=hba.size;have HW2:=Zh hW2;have HE:=Zh hv;clear hW2 hown2 hv
      go_wp2_with (at_builtin;rw [←HW2.out];with_reducible refine Qap rfl (.tmp 22) (.tmp 24) 67 rfl 3 _ 1 8 Qaz underlying67 rfl (by omega) rfl rfl hown3 hrd (Qaj _) (by omega) (by omega) hsz ?_)
      intro A3 c3 w8 ho8 hg8 _;have hb8:Below w1.heap.size w1 w8:=Bel.grownOwn hba hg8 hown3 hsz;have HO8:=Zh (show Own w8 w1.heap.size 3 1 A3 (no+1) c3 (Qag (idx (·.1) (N.ar.take (i+1)) v)) by rw [Qel HY.out,e1,if_pos rfl,Qbn];exact ho8)
      have HN1:=Zh (show (idx (·.1) (N.ar.take (i+1)) v).length=no+1 by rw [Qel HY.out,e1,if_pos rfl,List.length_append,←HNO.out];rfl)
      clear hown3 hrd hba hsz ho8 hg8
      go_wp2_with fail
      go_roundw
      case rel=>exact ⟨i+1,A3,c3,by omega,by go_num,by rw [HN1.out],by rw [HN1.out];exact HO8.out,hb8⟩
      case measure=>simp [intOf];omega
    · have e1:(y.1 == v)=false:=by simpa using hv
      have HN1:=Zh (show idx (·.1) (N.ar.take (i+1)) v=idx (·.1) (N.ar.take i) v by rw [Qel HY.out,e1];simp)
      have HE:=Zh hv;clear hv
      go_wp2_with fail
      go_roundw
      case rel=>exact ⟨i+1,A',c',by omega,by go_num,by rw [HN1.out,HNO.out],by rw [HN1.out];exact HOW.out,hbl⟩
      case measure=>simp [intOf];omega
def Qeg (N:Qao)(a:Nat):List Int:=match N.ar[a]? with
 | some x=>(idx (·.1) N.ar x.2.1).filter (fun b=>Qak N a b.toNat != 1152921504606846976)
 | none=>[]
def Qpw (N:Qao)(a:Nat):List Int:=(Qeg N a).map (fun b=>Qak N a b.toNat)
def Qkq (N:Qao):List (List Int):=(List.range N.ar.length).map (Qeg N)
def Qjn (N:Qao):List (List Int):=(List.range N.ar.length).map (Qpw N)
theorem Qus {N:Qao}{a:Nat}(h:a<N.ar.length):(Qkq N)[a]?=some (Qeg N a):=by
 unfold Qkq;rw [List.getElem?_map,List.getElem?_range h]
 rfl
theorem Qum {N:Qao}{a:Nat}(h:a<N.ar.length):(Qjn N)[a]?=some (Qpw N a):=by
 unfold Qjn;rw [List.getElem?_map,List.getElem?_range h]
 rfl
theorem Qyi {N:Qao}{a:Nat}{z:Int}:z∈Qeg N a↔∃ b:Nat,z=(b:Int)∧Qak N a b≠1152921504606846976:=by
 unfold Qeg
 cases hx:N.ar[a]? with
 | none =>
  simp only [List.not_mem_nil,false_iff,not_exists,not_and];rintro b rfl h;obtain ⟨x,_,e,_⟩:=Qbr h;rw [hx] at e
  cases e
 | some x =>
  simp only [List.mem_filter,Qfi]
  constructor
  · rintro ⟨⟨b,y,rfl,_,_⟩,h2⟩
    exact ⟨b,rfl,by simpa using h2⟩
  · rintro ⟨b,rfl,h⟩
    obtain ⟨x',y,e1,e2,e3⟩:=Qbr h;rw [hx] at e1
    cases e1
    exact ⟨⟨b,y,rfl,e2,e3.symm⟩,by simpa using h⟩
theorem Qyg (N:Qao)(a:Nat):(Qeg N a).length≤N.ar.length:=by
 unfold Qeg
 cases hx:N.ar[a]? with
 | none=>simp
 | some x =>
  have h:=Qem (·.1) N.ar N.ar.length x.2.1;rw [List.take_length] at h;exact Nat.le_trans (List.length_filter_le _ _) h
theorem trn_len (N:Qao)(a:Nat):(Qpw N a).length=(Qeg N a).length:=by simp [Qpw]
theorem nxt_at {N:Qao}{a k:Nat} (h:k<(Qeg N a).length):∃ b:Nat,(Qeg N a)[k]?=some (b:Int)∧(Qpw N a)[k]?=some (Qak N a b)∧Qak N a b≠1152921504606846976∧b<N.ar.length:=by
 obtain ⟨z,hz⟩:∃ z,(Qeg N a)[k]?=some z:=⟨_,Zg h⟩;obtain ⟨b,rfl,hb⟩:=Qyi.1 (Zm hz);obtain ⟨_,y,_,e,_⟩:=Qbr hb;refine ⟨b,hz,?_,hb,(Zs e).1⟩;unfold Qpw;rw [List.getElem?_map,hz]
 rfl
theorem Qgb (Q:Option Addr)(L cq i:Nat)(w:World)(hi:i<L) :
 Calls prog 104 #[.agg #[.slice Q L cq],.int .i64 ((i:Int)+1)] w fun r w'=>r=.returned (.bool true)∧Below w.heap.size w w':=by
 have i1:(1:Int)≤(i:Int)+1:=by omega
 have i2:(i:Int)+1≤(L:Int):=by omega
 go_enter func104,ntmps104
 go_wp2
 go_ret
 exact ⟨Qbe (by first|(simp;done)|(simp;omega)),Qah⟩
set_option maxHeartbeats 2000000 in
theorem Qha (A B C Q:Option Addr)(n m k c d e L cq li:Nat)(N:Qao) (ls:List (List Int)) (l:List Int) (w:World) (h:Qby w A B C n m k N) (hok:Qat N) (hq:RdT w Q L ls) (hl:ls[li]?=some l) (hll:l.length=N.vs.length) (hL:L≤1000000) :
 Calls prog 119 #[.agg #[.slice A n c,.slice B m d,.slice C k e],.agg #[.slice Q L cq],.int .i64 ((li:Int)+1)] w fun r w'=>∃ A' n' c',r=.returned (.slice A' n' c')∧RdI w' A' n' (Qav N.ar l)∧(∀ b,Qab A'=some b→w.heap.size≤b)∧Below w.heap.size w w':=by
 have HH:=Zh h;have HM:=Zh h.2.1.1;have hm:m≤16384:=by rw [←h.2.1.1];exact hok.la
 have hliL:li<L:=by rw [←hq.1];exact (Zs hl).1
 obtain ⟨qb,qo,LA,ln,lc,l',rfl,hl',q1,q2,q3,q4⟩:=hq.at_ hliL;rw [hl] at hl'
 cases hl'
 have hln:ln=N.vs.length:=by rw [←q2.1];exact hll
 have i5:(li:Int)+1-1=(li:Int):=by omega
 have i6:(li:Int)<(L:Int):=by omega
 have i7:(0:Int)≤(li:Int):=by omega
 have wl:IntKind.i64.wrap (li:Int)=(li:Int):=IntWalk.i64_in _ (by omega);have HQ:=Zh q2;have HQ1:=Zh q1;have HLN:=Zh hln;have hlv:=hok.lv;have HAR:=Zh hok.arcs;clear h hq hl q1 q2 q3 q4 hll hln hok
 go_enter func119,ntmps119
 go_wp2_with fail
 (refine Qai ?_;intro w1 hw1)
 have hb1:Below w.heap.size w w1:=by rw [hw1];exact Qah
 have hX:Blk w1 w.heap.size 26 #[.slice A n c,.slice B m d,.slice C k e]:=by
  rw [hw1];refine Blk.alloc ?_ _;exact Blk.new _ _ _
 have hY:Blk w1 (w.heap.size+1) 29 #[.slice (some ⟨qb,qo,none⟩) L cq]:=by
  rw [hw1];refine Blk.new' _ _ _ ?_;simp
 clear hw1
 go_loopw [7,8] (fun z q V=>∃ (i:Nat) (A':Option Addr) (c':Nat),i≤m∧q=.int .i64 i∧z=.slice A' (Qia (Qcf l) (N.ar.take i)).length c'∧Own V w1.heap.size 3 1 A' (Qia (Qcf l) (N.ar.take i)).length c' (Qag (Qia (Qcf l) (N.ar.take i)))∧Below w1.heap.size w1 V) (fun _ q _=>m-(intOf q).toNat)
 case atStart=>exact ⟨0,none,0,Nat.zero_le _,rfl,rfl,Own.nil _ _ _ _,Zr _ _⟩
 case round =>
  obtain ⟨i,A',c',hi,rfl,rfl,hown,hbl⟩:=hrel;have hXr:=hX.below hbl hX.lt;have hYr:=hY.below hbl hY.lt;have x1:=hXr.cell 1;have xl:=hXr.lt;have y0:=hYr.cell 0;have yl:=hYr.lt;simp only [List.getElem?_toArray,List.getElem?_cons_zero,List.getElem?_cons_succ] at x1 y0;have hbd:(Qia (Qcf l) (N.ar.take i)).length≤i:=Nat.le_trans (Qfn _ _) (by rw [List.length_take];omega);have HOW:=Zh hown;obtain ⟨no,hno⟩:∃ no,no=(Qia (Qcf l) (N.ar.take i)).length:=⟨_,rfl⟩;rw [←hno] at hbd ⊢;have HNO:=Zh hno;clear hown hno
  by_cases hlt:i<m
  rotate_left
  · obtain rfl:i=m:=by omega
    have i1:¬((i:Int)<(i:Int)):=by omega
    go_wp2_with fail
    go_ret
    refine ⟨A',no,⟨c',rfl⟩,?_,fun b hb=>by have:=(HOW.out.lt b hb).1;have:=hb1.size;omega,Zb hb1 hbl⟩;have:=HOW.out.rds.rdI;rw [List.take_of_length_le (by rw [HM.out];exact Zn _)] at this;rw [HNO.out,List.take_of_length_le (by rw [HM.out];exact Zn _)];exact this
  · have i1:(i:Int)<(m:Int):=by omega
    have i2:(0:Int)≤(i:Int):=by omega
    go_wp2_with fail
    with_reducible refine (Qgb _ L cq li wr hliL).mono ?_
    rintro r w2 ⟨rfl,hb2⟩;have hbl2:=Zb hbl hb2;have HOW2:=Zh (HOW.out.below hb2);have hbw:=Zb hb1 hbl2;clear x1 xl y0 yl hXr hYr hb2 hbl HOW;obtain ⟨y,hy⟩:∃ y,N.ar[i]?=some y:=⟨_,Zg (by rw [HM.out];exact hlt)⟩;obtain ⟨b,o,rfl,c0,c1,c2⟩:=(HH.out.below hbw).2.1.2 i y hy;have ho:=HAR.out y (Zm hy);have f0:=ho.f0;have f1:=ho.f1;have g0:=ho.g0;have g1:=ho.g1;obtain ⟨u,hu⟩:∃ u:Nat,y.1=(u:Int):=⟨y.1.toNat,by omega⟩;obtain ⟨v,hv⟩:∃ v:Nat,y.2.1=(v:Int):=⟨y.2.1.toNat,by omega⟩;rw [hu] at c0;rw [hv] at c1;have hun:u<ln:=by rw [HLN.out];omega
    have hvn:v<ln:=by rw [HLN.out];omega
    obtain ⟨b1,o1,z1,rfl,hz1,d1⟩:=(HQ.out.below hbw).at_ hun;obtain ⟨b1',o1',z2,e',hz2,d2⟩:=(HQ.out.below hbw).at_ hvn
    cases e'
    have hqc:=Zc hbw (Zn _) HQ1.out;have hXr:=hX.below hbl2 hX.lt;have hYr:=hY.below hbl2 hY.lt
    have hcr:Qcf l y=(z1 != z2):=by
     unfold Qcf;rw [hu,hv,Qas hz1,Qas hz2]
    have j1:(u:Int)<(ln:Int):=by omega
    have j2:(v:Int)<(ln:Int):=by omega
    have j3:(0:Int)≤(u:Int):=by omega
    have j4:(0:Int)≤(v:Int):=by omega
    have HY:=Zh hy;have HCR:=Zh hcr
    have HSX:=Zh (show ∀ V,Below w2.heap.size w2 V→V.cell? ⟨w.heap.size,1,none⟩=some (.slice (some ⟨b,o,none⟩) m d)∧V.cell? ⟨w.heap.size+1,0,none⟩=some (.slice (some ⟨qb,qo,none⟩) L cq)∧V.cell? ⟨qb,qo+li,none⟩=some (.slice (some ⟨b1,o1,none⟩) ln lc)∧V.cell? ⟨b,o+i*3,none⟩=some (.int .i64 u)∧V.cell? ⟨b,o+i*3+1,none⟩=some (.int .i64 v)∧V.cell? ⟨b1,o1+u,none⟩=some (.int .i64 z1)∧V.cell? ⟨b1,o1+v,none⟩=some (.int .i64 z2) from
     fun V hV=>⟨by rw [(hXr.below hV hXr.lt).cell];rfl,by rw [(hYr.below hV hYr.lt).cell];rfl,Zc hV (Zn _) hqc,Zc hV (Zn _) c0,Zc hV (Zn _) c1,Zc hV (Zn _) d1,Zc hV (Zn _) d2⟩)
    clear hy hcr c0 c1 c2 d1 d2 hqc hXr hYr hu hv hz1 hz2 f0 f1 g0 g1 ho
    go_wp2_with fail
    refine wp_region_held_drew (S:=fun V=>Below w2.heap.size w2 V) (by kernel_rfl) (Zr _ _).drew (fun _=>?_);refine tz 0 21 ?_;refine tz 1 22 ?_;refine tz 2 23 ?_;refine tz 3 24 ?_;refine tz 4 25 ?_;refine tz 5 26 ?_;refine tz 6 27 ?_;refine tz 7 28 ?_;refine tz 8 29 ?_;refine tz 9 30 ?_;refine tz 10 31 ?_;refine tz 11 32 ?_;refine tz 12 33 ?_;refine tz 13 34 ?_;refine tz 14 35 ?_;refine tz 15 36 ?_;refine tz 16 37 ?_;refine tz 17 38 ?_;refine tz 18 39 ?_;refine tz 19 40 ?_;refine tz 20 41 ?_;refine tz 21 42 ?_;refine tz 22 43 ?_;refine tz 23 44 ?_;refine tz 24 45 ?_;refine tz 25 46 ?_;refine tz 26 47 ?_;refine tz 27 48 ?_;refine tz 28 49 ?_;refine Zd ?_;clear HSX
    by_cases hv:z1=z2
    · have e1:(z1 != z2)=false:=by simpa using hv
      have HN1:=Zh (show Qia (Qcf l) (N.ar.take (i+1))=Qia (Qcf l) (N.ar.take i) by rw [Qkf HY.out,HCR.out,e1];simp)
      have HE:=Zh hv;clear hv
      go_wp2_with fail
      go_roundw
      case rel=>exact ⟨i+1,A',c',by omega,by go_num,by rw [HN1.out,HNO.out],by rw [HN1.out];exact HOW2.out.drew,hbl2.drew⟩
      case measure=>simp [intOf];omega
    · have e1:(z1 != z2)=true:=by simpa using hv
      obtain ⟨W1,hW1⟩:∃ W1,W1=w2.drew:=⟨_,rfl⟩;have hbW1:Below w1.heap.size w1 W1:=by rw [hW1];exact hbl2.drew
      have hown2:Own W1 w1.heap.size 3 1 A' no c' (Qag (Qia (Qcf l) (N.ar.take i))):=by
       rw [hW1];have:=HOW2.out;rw [←HNO.out] at this;exact this.drew
      rw [←hW1];obtain ⟨W2,hW2⟩:∃ W2,W2=W1.alloc (.cells #[.int .i64 i] 3):=⟨_,rfl⟩;have hown3:Own W2 w1.heap.size 3 1 A' no c' (Qag (Qia (Qcf l) (N.ar.take i))):=by rw [hW2];exact hown2.alloc _
      have hrd:Rds W2 1 (some ⟨W1.heap.size,0,none⟩) 1 (Qag [(i:Int)]):=by rw [hW2];exact (Blk.new W1 3 #[.int .i64 i]).rds rfl
      have hba:Below w1.heap.size w1 W2:=by rw [hW2];exact Below.alloc hbW1 hbW1.size _
      have hsz:w1.heap.size≤W2.heap.size:=hba.size;have HW2:=Zh hW2;have HE:=Zh hv;clear hW2 hown2 hv hW1 hbW1
      go_wp2_with (at_builtin;rw [←HW2.out];with_reducible refine Qap rfl (.tmp 50) (.tmp 52) 67 rfl 3 _ 1 8 Qaz underlying67 rfl (by omega) rfl rfl hown3 hrd (Qaj _) (by omega) (by omega) hsz ?_)
      intro A3 c3 w8 ho8 hg8 _;have hb8:Below w1.heap.size w1 w8:=Bel.grownOwn hba hg8 hown3 hsz;have HN0:=Zh (show Qia (Qcf l) (N.ar.take (i+1))=Qia (Qcf l) (N.ar.take i) ++[(i:Int)] by rw [Qkf HY.out,HCR.out,e1,if_pos rfl])
      have HO8:=Zh (show Own w8 w1.heap.size 3 1 A3 (no+1) c3 (Qag (Qia (Qcf l) (N.ar.take (i+1)))) by rw [HN0.out,Qbn];exact ho8)
      have HN1:=Zh (show (Qia (Qcf l) (N.ar.take (i+1))).length=no+1 by rw [HN0.out,List.length_append,←HNO.out];rfl)
      clear hown3 hrd hba hsz ho8 hg8
      go_wp2_with fail
      go_roundw
      case rel=>exact ⟨i+1,A3,c3,by omega,by go_num,by rw [HN1.out],by rw [HN1.out];exact HO8.out,hb8⟩
      case measure=>simp [intOf];omega
set_option maxHeartbeats 1000000 in
theorem Qqh (Q:Option Addr)(L cq li n:Nat)(c:Int) (ls:List (List Int)) (l l0:List Int) (w:World) (h:RdT w Q L ls) (hl:ls[li]?=some l) (hL:L≤1000000) (h0:ls[0]?=some l0) (hn:l.length=n) (hn0:l0.length=n) (hn4:n≤1000000) :
 Calls prog 107 #[.agg #[.slice Q L cq],.int .i64 ((li:Int)+1),.int .i64 c] w fun e w'=>∃ b,e=.returned (.slice (some ⟨b,0,none⟩) n n)∧Blk w' b 4 (Qer (Qcy l c))∧w.heap.size≤b∧Below w.heap.size w w':=by
 have hL0:0<L:=by rw [←h.1];exact (Zs h0).1
 have hliL:li<L:=by rw [←h.1];exact (Zs hl).1
 obtain ⟨qb,qo,A0,n0,c0,l0',hQ,hl0,g0,g1,g2,g3⟩:=h.at_ hL0;rw [h0] at hl0
 cases hl0
 obtain rfl:n=n0:=by rw [←hn0];exact g1.1
 obtain ⟨qb',qo',A1,n1,c1,l1',e',hl1,k0,k1,k2,k3⟩:=h.at_ hliL;subst hQ
 cases e'
 rw [hl] at hl1
 cases hl1
 obtain rfl:n=n1:=by rw [←hn];exact k1.1
 have HG0:=Zh (show ∀ V,Below w.heap.size w V→V.cell? ⟨qb,qo,none⟩=some (.slice A0 n c0) from fun V hV=>Zc hV (Zn _) g0)
 have HK0:=Zh (show ∀ V,Below w.heap.size w V→V.cell? ⟨qb,qo+li,none⟩=some (.slice A1 n c1) from fun V hV=>Zc hV (Zn _) k0)
 have HK1:=Zh k1;have HN:=Zh hn;have hmk:=Qjv n (by omega);have e1:((L:Int) == 0)=false:=by simp;omega
 have i1:(0:Int)<(L:Int):=by omega
 have i2:(li:Int)<(L:Int):=by omega
 have i3:(0:Int)≤(li:Int):=by omega
 have i4:(li:Int)+1-1=(li:Int):=by omega
 have wl:IntKind.i64.wrap (li:Int)=(li:Int):=IntWalk.i64_in _ (by omega);have zq:=Qam g0;simp only at zq;have z0:(w.alloc (.cells #[.slice (some ⟨qb,qo,none⟩) L cq] 29)).cell? ⟨qb,qo,none⟩=some (.slice A0 n c0):=HG0.out _ ((Zr _ _).alloc (Zn _) _);clear h hl h0 hn hn0 g0 g1 g2 g3 k0 k1 k2 k3
 go_enter func107,ntmps107
 go_wp2_with fail
 (refine Qai ?_;intro w3 hw3)
 have hb3:Below w.heap.size w w3:=by rw [hw3];exact Qah
 have hX3:Blk w3 w.heap.size 29 #[.slice (some ⟨qb,qo,none⟩) L cq]:=by rw [hw3];exact (Blk.new _ _ _).alloc _
 have hd3:Blk w3 (w.heap.size+1) 4 (Qer ((Qcy l c).take 0 ++List.replicate (n-0) false)):=by
  rw [hw3,Nat.sub_zero,List.take_zero,List.nil_append,←Qii];refine Blk.new' _ _ _ ?_;simp
 clear hw3 z0 zq
 go_loopw [8] (fun q W=>∃ i:Nat,q=.int .i64 i∧i≤n∧Below w.heap.size w W∧Blk W w.heap.size 29 #[.slice (some ⟨qb,qo,none⟩) L cq]∧Blk W (w.heap.size+1) 4 (Qer ((Qcy l c).take i ++List.replicate (n-i) false))) (fun q _=>n-(intOf q).toNat)
 case atStart=>exact ⟨0,by go_num,Nat.zero_le _,hb3,hX3,hd3⟩
 case round =>
  clear hb3 hd3 hX3;obtain ⟨i,rfl,hin,hb,hX,hd⟩:=hrel
  by_cases hlt:i<n
  · have x0:wr.cell? ⟨w.heap.size,0,none⟩=some (.slice (some ⟨qb,qo,none⟩) L cq):=Zq hX
    have hi2:(i:Int)<(n:Int):=by omega
    go_wp2_with fail
    with_reducible refine (Qgb _ L cq li wr hliL).mono ?_
    rintro r w2 ⟨rfl,hb2⟩;have hbw2:=Zb hb hb2;obtain ⟨b,o,z,rfl,hz,hc⟩:=(HK1.out.below hbw2).at_ hlt;have hd2:=hd.below hb2 hd.lt;have hX2:=hX.below hb2 hX.lt;have f0:=hd2.frozen i;have hd':=hd2.setB (i:=i) (x:=z == c) (Qwc hz HN.out);have hb':Below w.heap.size w (w2.setCell ⟨w.heap.size+1,i,none⟩ (.bool (z == c))):=hbw2.setCell (by simp) _;have hX':Blk (w2.setCell ⟨w.heap.size+1,i,none⟩ (.bool (z == c))) w.heap.size 29 #[.slice (some ⟨qb,qo,none⟩) L cq]:=hX2.far_ (by omega) _;have hi1:(0:Int)≤(i:Int):=by omega
    have HD:=Zh hd';have HB:=Zh hb';have HX:=Zh hX';obtain ⟨v0,hv0⟩:∃ v0,((Qcy l c).take i ++List.replicate (n-i) false)[i]?=some v0:=⟨_,Zg (by rw [List.length_append,List.length_take,Qhk,HN.out,List.length_replicate];omega)⟩;have c0':=hd2.cellB hv0;have x2:w2.cell? ⟨w.heap.size,0,none⟩=some (.slice (some ⟨qb,qo,none⟩) L cq):=Zq hX2;have x3:=HK0.out w2 hbw2;clear hv0;clear hd hb hd' hb' hz hd2 hX2 hX hX' x0 hb2 hbw2
    go_wp2_with fail
    go_roundw
    case rel=>exact ⟨i+1,by go_num,by omega,HB.out,HX.out,HD.out⟩
    case measure=>simp [intOf];omega
  · obtain rfl:i=n:=by omega
    rw [Nat.sub_self,List.take_of_length_le (by rw [Qhk,HN.out];exact Zn _),List.replicate_zero,List.append_nil] at hd
    go_wp2_with fail
    go_ret
    exact ⟨_,rfl,hd,by omega,hb⟩
set_option maxHeartbeats 1000000 in
theorem never_ok (n:Nat)(w:World)(hn:n≤1000000):Calls prog 133 #[.int .i64 n] w fun e w'=>e=.returned (.slice (some ⟨w.heap.size,0,none⟩) n n)∧Blk w' w.heap.size 2 (Qca (List.replicate n 1152921504606846976))∧Below w.heap.size w w':=by
 have hmk:=Qfb n (by omega)
 go_enter func133,ntmps133
 go_wp2_with fail
 (refine Qai ?_;intro w1 hw1)
 have hb1:Below w.heap.size w w1:=by rw [hw1];exact Qah
 have hd1:Blk w1 w.heap.size 2 (Qca (List.replicate 0 1152921504606846976 ++List.replicate (n-0) 0)):=by
  rw [hw1,Nat.sub_zero,List.replicate_zero,List.nil_append,←Qcn];exact Blk.new _ _ _
 clear hw1
 go_loopw [4] (fun q W=>∃ i:Nat,q=.int .i64 i∧i≤n∧Below w.heap.size w W∧Blk W w.heap.size 2 (Qca (List.replicate i 1152921504606846976 ++List.replicate (n-i) 0))) (fun q _=>n-(intOf q).toNat)
 case atStart=>exact ⟨0,rfl,Nat.zero_le _,hb1,hd1⟩
 case round =>
  clear hb1 hd1;obtain ⟨i,rfl,hin,hb,hd⟩:=hrel
  by_cases hlt:i<n
  · obtain ⟨v0,hv0⟩:∃ v0,(List.replicate i (1152921504606846976:Int) ++List.replicate (n-i) 0)[i]?=some v0:=⟨_,Zg (by simp;omega)⟩
    have c0:=hd.cellI hv0;have f0:=hd.frozen i;have HD:=Zh (hd.setI (Qte n i hlt 1152921504606846976 0));have HB:=Zh (show Below w.heap.size w (wr.setCell ⟨w.heap.size,i,none⟩ (.int .i64 1152921504606846976)) from Bel.setCell_ hb (Zn _))
    have i1:(0:Int)≤(i:Int):=by omega
    have i2:(i:Int)<(n:Int):=by omega
    clear hb hd hv0
    go_wp2_with fail
    go_roundw
    case rel=>exact ⟨i+1,by go_num,by omega,HB.out,HD.out⟩
    case measure=>simp [intOf];omega
  · obtain rfl:n=i:=by omega
    rw [Nat.sub_self,List.replicate_zero,List.append_nil] at hd;have i2:¬((n:Int)<(n:Int)):=by omega
    go_wp2_with fail
    go_ret
    exact ⟨rfl,hd,hb⟩
theorem Qek (A:Option Addr)(n c v:Nat)(mk:List Bool)(w:World)(h:RdB w A n mk)(hv:v<n):Calls prog 183 #[.slice A n c,.int .i64 v] w fun e w'=>e=.returned (.bool (mk.getD v false))∧w=w':=by
 obtain ⟨b,o,x,rfl,hx,hc⟩:=h.at_ hv;have hxe:mk.getD v false=x:=by rw [List.getD_eq_getElem?_getD,hx];rfl
 rw [hxe];have i1:(0:Int)≤(v:Int):=by omega
 have i2:(v:Int)<(n:Int):=by omega
 clear h hx hxe
 go_enter func183,ntmps183
 go_wp2_with fail
 go_ret
 exact ⟨rfl,rfl⟩
def Qce (x y:Int):Int:=if x+y > 1152921504606846976 then 1152921504606846976 else x+y
theorem Qim (x:Int)(w:World)(h0:0≤x)(h1:x≤1152921504606846976):Calls prog 140 #[.int .i64 x] w fun e w'=>e=.returned (.int .i64 x)∧w=w':=by
 have i1:¬(x<0):=by omega
 have i2:¬(x > 1152921504606846976):=by omega
 go_enter func140,ntmps140
 go_wp2_with fail
 go_ret
 exact ⟨rfl,rfl⟩
theorem Qrs (x:Int)(w:World)(h1:x > 1152921504606846976):Calls prog 140 #[.int .i64 x] w fun e w'=>e=.returned (.int .i64 1152921504606846976)∧w=w':=by
 have i1:¬(x<0):=by omega
 go_enter func140,ntmps140
 go_wp2_with fail
 go_ret
 exact ⟨rfl,rfl⟩
theorem Qfg (x y:Int)(w:World)(hx:0≤x∧x≤1152921504606846976)(hy:0≤y∧y≤1152921504606846976):Calls prog 79 #[.int .i64 x,.int .i64 y] w fun e w'=>e=.returned (.int .i64 (Qce x y))∧w=w':=by
 have HX:=Zh (Qim x w hx.1 hx.2);have HY:=Zh (Qim y w hy.1 hy.2)
 have HZ:=Zh (show Calls prog 140 #[.int .i64 (x+y)] w fun e w'=>e=.returned (.int .i64 (Qce x y))∧w=w' by
  unfold Qce
  by_cases h:x+y > 1152921504606846976
  · rw [if_pos h];exact Qrs _ w h
  · rw [if_neg h];exact Qim _ w (by omega) (by omega))
 have e1:IntKind.i64.wrap (x+y)=x+y:=IntWalk.i64_in _ (by omega);clear hx hy
 go_enter func79,ntmps79
 go_wp2_with fail
 with_reducible refine HX.out.mono ?_
 rintro e w' ⟨rfl,rfl⟩
 go_wp2_with fail
 with_reducible refine HY.out.mono ?_
 rintro e w' ⟨rfl,rfl⟩
 go_wp2_with fail
 with_reducible refine HZ.out.mono ?_
 rintro e w' ⟨rfl,rfl⟩
 go_wp2_with fail
 go_ret
 exact ⟨rfl,rfl⟩
theorem Qhd {x y:Int}(hx:0≤x)(hy:0≤y):0≤Qce x y∧Qce x y≤1152921504606846976∧Qce x y≤x+y∧(Qce x y<1152921504606846976→Qce x y=x+y):=by
 unfold Qce
 split <;> omega
def Que (d:List Int):Nat:=(d.map Int.toNat).sum
theorem Qta:∀ (d:List Int)(b:Nat)(v x:Int),d[b]?=some x→0≤v→v<x→Que (d.set b v)<Que d
 | [],b,v,x,h,_,_=>by simp at h
 | z::t,0,v,x,h,h1,h2=>by
  simp at h;subst h;simp only [Que,List.set_cons_zero,List.map_cons,List.sum_cons];omega
 | z::t,b+1,v,x,h,h1,h2=>by
  have:=Qta t b v x (by simpa using h) h1 h2;simp only [Que,List.set_cons_succ,List.map_cons,List.sum_cons] at this ⊢;omega
section
variable {N:Qao} {mk:List Bool} {s t:Nat} {d:List Int} {best:Int}
def Wi (mk:List Bool)(y:Tri):Prop:=mk.getD y.1.toNat false=true∧mk.getD y.2.1.toNat false=true
theorem Qkx {a b:Nat}{y:Tri}{e:Int} (hy:N.ar[b]?=some y):StA N mk a b e↔Qak N a b≠1152921504606846976∧y.2.2≠1152921504606846976∧Wi mk y∧e=Qak N a b+y.2.2:=by
 constructor
 · rintro ⟨z,hz,h1,h2,h3,h4,h5⟩
   rw [hy] at hz
   cases hz
   exact ⟨h1,h2,⟨h3,h4⟩,h5⟩
 · rintro ⟨h1,h2,h3,h4⟩
   exact ⟨y,hy,h1,h2,h3.1,h3.2,h4⟩
def BfS (N:Qao)(mk:List Bool)(s t:Nat)(d:List Int)(best:Int)(k:Nat):Prop:=∀ (j b:Nat),j<k→(Qeg N s)[j]?=some (b:Int)→(∀ e,StA N mk s b e→dAt d b≤e)∧(b=t→best≤Qak N s b)
def Quc (x y:Int):Int:=if y<x then y else x
theorem Qqa {d:List Int}{b q:Nat}{v:Int}(hb:b<d.length):dAt (d.set b v) q=if b=q then v else dAt d q:=by
 unfold dAt;simp only [List.getD_eq_getElem?_getD]
 by_cases e:b=q
 · subst e;rw [if_pos rfl,List.getElem?_set_self hb];rfl
 · rw [if_neg e,List.getElem?_set_ne e]
theorem BfI.dir1 (h:BfI N mk s t d best)(hok:Qat N){b:Nat}(htn:Qak N s b≠1152921504606846976)(hb:b=t):BfI N mk s t d (Quc best (Qak N s b)):=by
 have h1:=(Qcm hok s b).resolve_left htn;unfold Quc
 split
 · rename_i hlt
   subst hb;have:=h.out .start (Int.le_refl _) (show OuA N s b (Qak N s b) from ⟨htn,rfl⟩) h1.1 (by omega)
   rwa [Int.zero_add] at this
 · exact h
theorem BfI.dir2 (h:BfI N mk s t d best)(hok:Qat N){b:Nat}{y:Tri} (hy:N.ar[b]?=some y) (htn:Qak N s b≠1152921504606846976) (hw:y.2.2≠1152921504606846976) (hwi:Wi mk y):Qce (Qak N s b) y.2.2=Qak N s b+y.2.2∧BfI N mk s t (d.set b (Quc (dAt d b) (Qce (Qak N s b) y.2.2))) best:=by
 have hst:=(Qkx (a:=s) (mk:=mk) hy).2 ⟨htn,hw,hwi,rfl⟩;have hbd:=hst.bd hok;have hbl:b<d.length:=by rw [h.len];exact (Zs hy).1
 have e:Qce (Qak N s b) y.2.2=Qak N s b+y.2.2:=by unfold Qce;rw [if_neg (by omega)]
 refine ⟨e,?_⟩;rw [e];unfold Quc
 split
 · have:=h.less .start (Int.le_refl _) hst hbd.1 (by omega)
   rwa [Int.zero_add] at this
 · have:d.set b (dAt d b)=d:=by
    apply List.ext_getElem?
    intro i
    by_cases e2:b=i
    · subst e2
      rw [List.getElem?_set_self hbl,Zg hbl];unfold dAt;rw [List.getD_eq_getElem?_getD,Zg hbl]
      rfl
    · rw [List.getElem?_set_ne e2]
   rw [this];exact h
theorem BfS.next {k b:Nat}{d':List Int}{best':Int}(h:BfS N mk s t d best k) (hb:(Qeg N s)[k]?=some (b:Int)) (hd:∀ q,dAt d' q≤dAt d q) (hbb:best'≤best) (h1:∀ e,StA N mk s b e→dAt d' b≤e) (h2:b=t→best'≤Qak N s b):BfS N mk s t d' best' (k+1):=fun j q hj hq=>by
 by_cases e:j=k
 · subst e
   rw [hb] at hq;have:(b:Int)=(q:Int):=Option.some.inj hq;obtain rfl:b=q:=by omega
   exact ⟨h1,h2⟩
 · obtain ⟨g1,g2⟩:=h j q (by omega) hq
   exact ⟨fun e he=>Int.le_trans (hd q) (g1 e he),fun e=>Int.le_trans hbb (g2 e)⟩
def BfR (N:Qao)(mk:List Bool)(t:Nat)(d:List Int)(best:Int)(a k:Nat):Prop:=∀ (p j b:Nat),p<a∨p=a∧j<k→(Qeg N p)[j]?=some (b:Int)→dAt d p<1152921504606846976→(∀ e,StA N mk p b e→dAt d b≤dAt d p+e)∧(b=t→best≤dAt d p+Qak N p b)
theorem BfR.less {a k:Nat}{best':Int}(h:BfR N mk t d best a k)(hb:best'≤best):BfR N mk t d best' a k:=fun p j b hp hj hd=>by
 obtain ⟨h1,h2⟩:=h p j b hp hj hd;exact ⟨h1,fun e=>Int.le_trans hb (h2 e)⟩
theorem BfR.next {a k b:Nat}(h:BfR N mk t d best a k) (hb:(Qeg N a)[k]?=some (b:Int)) (h1:dAt d a<1152921504606846976→(∀ e,StA N mk a b e→dAt d b≤dAt d a+e)∧(b=t→best≤dAt d a+Qak N a b)):BfR N mk t d best a (k+1):=fun p j q hp hq hd=>by
 by_cases e:p=a∧j=k
 · obtain ⟨rfl,rfl⟩:=e
   rw [hb] at hq;have:(b:Int)=(q:Int):=Option.some.inj hq;obtain rfl:b=q:=by omega
   exact h1 hd
 · exact h p j q (by omega) hq hd
theorem BfR.up {a k:Nat}(h:BfR N mk t d best a k) (hk:(Qeg N a).length≤k∨¬dAt d a<1152921504606846976):BfR N mk t d best (a+1) 0:=fun p j b hp hj hd=>by
 by_cases e:p=a
 · subst e
   rcases hk with hk|hk
   · exact h p j b (.inr ⟨rfl,by have:=(Zs hj).1;omega⟩) hj hd
   · exact absurd hd hk
 · exact h p j b (by omega) hj hd
theorem BfI.fin (hok:Qat N)(h:BfI N mk s t d best) (hS:BfS N mk s t d best (Qeg N s).length) (hR:BfR N mk t d best N.ar.length 0):Qfu N mk s t best:=by
 have key:∀ p b:Nat,Qak N p b≠1152921504606846976→∃ j,(Qeg N p)[j]?=some (b:Int):=fun p b hb=>List.getElem?_of_mem (Qyi.2 ⟨b,rfl,hb⟩)
 refine h.done hok (fun b e he=>?_) (fun e he=>?_) (fun a ha=>⟨fun b e he=>?_,fun e he=>?_⟩)
 · obtain ⟨y,_,h1,_⟩:=id he
   obtain ⟨j,hj⟩:=key s b h1;exact (hS j b (Zs hj).1 hj).1 e he
 · obtain ⟨j,hj⟩:=key s t he.1
   rw [he.2];exact (hS j t (Zs hj).1 hj).2 rfl
 · obtain ⟨y,_,h1,_⟩:=id he
   obtain ⟨x,_,hx,_⟩:=Qbr h1;obtain ⟨j,hj⟩:=key a b h1;exact (hR a j b (.inl (Zs hx).1) hj ha).1 e he
 · obtain ⟨x,_,hx,_⟩:=Qbr he.1
   obtain ⟨j,hj⟩:=key a t he.1;rw [he.2];exact (hR a j t (.inl (Zs hx).1) hj ha).2 rfl
theorem BfI.nb (h:BfI N mk s t d best)(hok:Qat N){a b:Nat}(ha:dAt d a<1152921504606846976)(htn:Qak N a b≠1152921504606846976)(hb:b=t) (hlt:Qce (dAt d a) (Qak N a b)<best):BfI N mk s t d (Qce (dAt d a) (Qak N a b)):=by
 have h1:=(Qcm hok a b).resolve_left htn
 rcases h.at_ a with h2|⟨h2,_,c,e,hr⟩
 · omega
 · have hbl:best≤1152921504606846976:=by rcases h.best with g|⟨_,g,_⟩ <;> omega
   have e2:=(Qhd h2 h1.1).2.2.2 (by omega);rw [e2] at hlt ⊢;subst hb;rw [e] at h2 hlt ⊢;exact h.out hr h2 (show OuA N a b (Qak N a b) from ⟨htn,rfl⟩) h1.1 hlt
theorem BfI.nd (h:BfI N mk s t d best)(hok:Qat N){a b:Nat}{y:Tri}(ha:dAt d a<1152921504606846976)(htn:Qak N a b≠1152921504606846976) (hy:N.ar[b]?=some y) (hw0:0≤y.2.2) (hwi:Wi mk y) (hlt:Qce (Qce (dAt d a) (Qak N a b)) y.2.2<dAt d b) :
 BfI N mk s t (d.set b (Qce (Qce (dAt d a) (Qak N a b)) y.2.2)) best∧0≤Qce (Qce (dAt d a) (Qak N a b)) y.2.2:=by
 have h1:=(Qcm hok a b).resolve_left htn
 rcases h.at_ a with h2|⟨h2,_,c,e,hr⟩
 · omega
 · have hdb:dAt d b≤1152921504606846976:=by rcases h.at_ b with g|⟨_,g,_⟩ <;> omega
   have g1:=Qhd h2 h1.1;have g2:=Qhd g1.1 hw0;have e2:=g2.2.2.2 (by omega);have e3:=g1.2.2.2 (by omega);rw [e2,e3] at hlt ⊢;have hst:=(Qkx (a:=a) (mk:=mk) hy).2 ⟨htn,by omega,hwi,rfl⟩;rw [Int.add_assoc] at hlt ⊢;rw [e] at h2 hlt ⊢;exact ⟨h.less hr h2 hst (hst.bd hok).1 hlt,by omega⟩
theorem BfR.nx (hok:Qat N){a k b:Nat}{y:Tri}(h:BfR N mk t d best a k) (hb:(Qeg N a)[k]?=some (b:Int)) (hd0:0≤dAt d a) (htn:Qak N a b≠1152921504606846976) (hy:N.ar[b]?=some y) (hw0:0≤y.2.2) (hbest:b=t→best≤Qce (dAt d a) (Qak N a b)) (hno:Wi mk y→dAt d b≤Qce (Qce (dAt d a) (Qak N a b)) y.2.2):BfR N mk t d best a (k+1):=by
 have h1:=(Qcm hok a b).resolve_left htn;have g1:=Qhd hd0 h1.1;have g2:=Qhd g1.1 hw0;refine h.next hb (fun _=>⟨fun e he=>?_,fun e=>?_⟩)
 · obtain ⟨_,_,h4,h5⟩:=(Qkx hy).1 he
   have:=hno h4;omega
 · have:=hbest e
   omega
def rowOf (V:World)(D:Nat):List Int:=match V.heap[D]? with
 | some (.cells cs _ _)=>cs.toList.map (fun v=>match v with | .int _ x=>x | _=>0)
 | _=>[]
theorem Qpk {V:World}{D:Nat}{ty:TypeId}{l:List Int} (h:Blk V D ty (Qca l)):rowOf V D=l:=by
 unfold rowOf;rw [show V.heap[D]?=_ from h]
 simp only [Qca,List.map_map];exact List.map_id l
end
end Go.Proofs.YteaoiabikjnkeaaGreatDoor
