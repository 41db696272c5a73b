/- Qbl of the proof: Nv, Nt1, Nt2, Nt3, Nt4, Nt5. -/
import Derived.Test.YtkaaakbejnlbgaaGreatDoorD2
set_option maxHeartbeats 4000000
set_option maxRecDepth 100000
namespace Go.Proofs.YtkaaakbejnlbgaaGreatDoor
open Go.RowKit Go.Proofs.Tryz
abbrev Tri:=Int×Int×Int
def Qbb:List Tri→List Value
 | []=>[]
 | p::t=>.int .i64 p.1::.int .i64 p.2.1::.int .i64 p.2.2::Qbb t
theorem Qii:∀ l:List Tri,(Qbb l).length=l.length*3
 | []=>rfl
 | _::t=>by simp [Qbb,Qii t];omega
theorem Qgb:∀ l m:List Tri,Qbb (l ++m)=Qbb l ++Qbb m
 | [],_=>rfl
 | p::t,m=>by simp [Qbb,Qgb t m]
theorem Qqw:∀ {l:List Tri}{i:Nat}{p:Tri},l[i]?=some p→(Qbb l)[i*3]?=some (.int .i64 p.1)∧(Qbb l)[i*3+1]?=some (.int .i64 p.2.1)∧(Qbb l)[i*3+2]?=some (.int .i64 p.2.2)
 | [],i,p,h=>by simp at h
 | q::t,0,p,h=>by simp at h;subst h;simp [Qbb]
 | q::t,i+1,p,h=>by have:=Qqw (l:=t) (i:=i) (p:=p) (by simpa using h);rw [show (i+1)*3=i*3+1+1+1 by omega,show i*3+1+1+1+1=(i*3+1)+1+1+1 by omega,show i*3+1+1+1+2=(i*3+2)+1+1+1 by omega];simpa [Qbb] using this
theorem Qij (l:List Tri):∀ u∈Qbb l,u.oneCell'=true:=by
 induction l with
 | nil=>intro u hu;cases hu
 | cons p t ih =>
  intro u hu;simp only [Qbb,List.mem_cons] at hu;rcases hu with rfl|rfl|rfl|hu
  {rfl};{rfl};{rfl};{exact ih u hu}
def Rd3 (w:World)(A:Oz)(n:Nat)(l:List Tri):Prop :=
 l.length=n∧∀ i x,l[i]?=some x→∃ b o,A=some ⟨b,o,none⟩∧w.cell? ⟨b,o+i*3,none⟩=some (.int .i64 x.1)∧w.cell? ⟨b,o+i*3+1,none⟩=some (.int .i64 x.2.1)∧w.cell? ⟨b,o+i*3+2,none⟩=some (.int .i64 x.2.2)
theorem Rd3.at_ {w:World}{A:Oz}{n i:Nat}{l:List Tri}(h:Rd3 w A n l)(hi:i<n) :
 ∃ b o x y z,A=some ⟨b,o,none⟩∧l[i]?=some (x,y,z)∧w.cell? ⟨b,o+i*3,none⟩=some (.int .i64 x)∧w.cell? ⟨b,o+i*3+1,none⟩=some (.int .i64 y)∧w.cell? ⟨b,o+i*3+2,none⟩=some (.int .i64 z):=by
 have hl:i<l.length:=by rw [h.1];exact hi
 obtain ⟨b,o,e,hc⟩:=h.2 i _ (Zg hl);exact ⟨b,o,_,_,_,e,Zg hl,hc⟩
theorem Rd3.below {w w':World}{A:Oz}{n:Nat}{l:List Tri}(h:Rd3 w A n l)(hb:Bw w w'):Rd3 w' A n l :=
 ⟨h.1,fun i x hx=>by
  obtain ⟨b,o,e,h1,h2,h3⟩:=h.2 i x hx;exact ⟨b,o,e,Zc hb (Zn _) h1,Zc hb (Zn _) h2,Zc hb (Zn _) h3⟩⟩
theorem Rds.rd3 {w:World}{n:Nat}{A:Oz}{l:List Tri} (h:Rds w 3 A n (Qbb l)):Rd3 w A n l :=
 ⟨by have:=h.1;rw [Qii] at this;omega,fun i p hp=>by
  obtain ⟨h1,h2,h3⟩:=Qqw hp;obtain ⟨b,o,e,c1⟩:=h.2 _ _ h1;obtain ⟨b',o',e',c2⟩:=h.2 _ _ h2;rw [e] at e';cases e'
  obtain ⟨b',o',e',c3⟩:=h.2 _ _ h3;rw [e] at e';cases e'
  exact ⟨b,o,e,c1,by rw [Nat.add_assoc];exact c2,by rw [Nat.add_assoc];exact c3⟩⟩
theorem Qvv:∀ {l:List Tri}{j:Nat}{u:Value},(Qbb l)[j]?=some u→∃ p,l[j / 3]?=some p∧((j % 3=0∧u=.int .i64 p.1)∨(j % 3=1∧u=.int .i64 p.2.1)∨(j % 3=2∧u=.int .i64 p.2.2))
 | [],j,u,h=>by simp [Qbb] at h
 | q::t,0,u,h=>by simp [Qbb] at h;exact ⟨q,Sm,.inl ⟨rfl,h.symm⟩⟩
 | q::t,1,u,h=>by simp [Qbb] at h;exact ⟨q,Sm,.inr (.inl ⟨rfl,h.symm⟩)⟩
 | q::t,2,u,h=>by simp [Qbb] at h;exact ⟨q,Sm,.inr (.inr ⟨rfl,h.symm⟩)⟩
 | q::t,j+3,u,h=>by obtain ⟨p,h1,h2⟩:=Qvv (l:=t) (j:=j) (u:=u) (by simpa [Qbb] using h);refine ⟨p,?_,?_⟩;{rw [show (j+3) / 3=j / 3+1 by omega];simpa using h1};{rw [show (j+3) % 3=j % 3 by omega];exact h2}
theorem Rd3.rds {w:World}{n:Nat}{A:Oz}{l:List Tri}(h:Rd3 w A n l):Rds w 3 A n (Qbb l) :=
 ⟨by rw [Qii,h.1],fun j u hu=>by
  obtain ⟨p,hp,hu'⟩:=Qvv hu;obtain ⟨b,o,e,h1,h2,h3⟩:=h.2 _ p hp;refine ⟨b,o,e,?_⟩
  rcases hu' with ⟨hm,rfl⟩|⟨hm,rfl⟩|⟨hm,rfl⟩
  · rw [show o+j=o+j / 3*3 by omega];exact h1
  · rw [show o+j=o+j / 3*3+1 by omega];exact h2
  · rw [show o+j=o+j / 3*3+2 by omega];exact h3⟩
structure Qgc where
 ins:Int
 outs:Int
 costs:Iz
def Qtm (w:World)(b o:Nat)(t:Qgc):Prop:=w.cell? ⟨b,o,none⟩=some (.int .i64 t.ins)∧w.cell? ⟨b,o+1,none⟩=some (.int .i64 t.outs)∧∃ (A:Oz) (n c:Nat),w.cell? ⟨b,o+2,none⟩=some (.slice A n c)∧RdI w A n t.costs∧n≤c∧c≤9223372036854775807
theorem Qtm.below {w w':World}{b o:Nat}{t:Qgc}(h:Qtm w b o t)(hb:Bw w w'):Qtm w' b o t:=by obtain ⟨h1,h2,A,n,c,h3,h4,h5⟩:=h;exact ⟨Zc hb (Zn _) h1,Zc hb (Zn _) h2,A,n,c,Zc hb (Zn _) h3,h4.below hb,h5⟩
def RdY (w:World)(A:Oz)(n:Nat)(l:List Qgc):Prop:=l.length=n∧∀ i t,l[i]?=some t→∃ b o,A=some ⟨b,o,none⟩∧Qtm w b (o+i*3) t
theorem RdY.at_ {w:World}{A:Oz}{n i:Nat}{l:List Qgc}(h:RdY w A n l)(hi:i<n):∃ b o t,A=some ⟨b,o,none⟩∧l[i]?=some t∧Qtm w b (o+i*3) t:=by
 have hl:i<l.length:=by rw [h.1];exact hi
 obtain ⟨b,o,e,hc⟩:=h.2 i _ (Zg hl);exact ⟨b,o,_,e,Zg hl,hc⟩
theorem RdY.below {w w':World}{A:Oz}{n:Nat}{l:List Qgc}(h:RdY w A n l)(hb:Bw w w'):RdY w' A n l :=
 ⟨h.1,fun i t ht=>by obtain ⟨b,o,e,hc⟩:=h.2 i t ht;exact ⟨b,o,e,hc.below hb⟩⟩
structure Qak where
 vs:List Tri
 ar:List Tri
 ts:List Qgc
def Qcp (w:World)(A B C:Oz)(n m k:Nat)(N:Qak):Prop:=Rd3 w A n N.vs∧Rd3 w B m N.ar∧RdY w C k N.ts
theorem Qcp.below {w w':World}{A B C:Oz}{n m k:Nat}{N:Qak}(h:Qcp w A B C n m k N)(hb:Bw w w'):Qcp w' A B C n m k N:=⟨h.1.below hb,h.2.1.below hb,h.2.2.below hb⟩
def wOk (a:Int):Bool:=(decide (0≤a) && decide (a≤2147483648)) || decide (a=1152921504606846976)
def Qis (x:Int):Bool:=decide (-1048576≤x) && decide (x≤1048576)
structure Qtn (t:Qgc):Prop where
 i0:0≤t.ins
 i16:t.ins≤16
 o0:0≤t.outs
 o16:t.outs≤16
 len:(t.costs.length:Int)=t.ins*t.outs
 ok:∀ c∈t.costs,wOk c=true
def cntTo (l:List Tri)(v:Nat):Nat:=l.countP (fun a=>a.2.1 == (v:Int))
def cntFr (l:List Tri)(v:Nat):Nat:=l.countP (fun a=>a.1 == (v:Int))
structure Rdn (k:Nat) (v:Tri):Prop where
 x:Qis v.1=true
 y:Qis v.2.1=true
 t0:0≤v.2.2
 t1:v.2.2<k
structure ArcOk (n:Nat) (a:Tri):Prop where
 f0:0≤a.1
 f1:a.1<n
 g0:0≤a.2.1
 g1:a.2.1<n
 w:wOk a.2.2=true
structure Qar (N:Qak):Prop where
 lv:N.vs.length≤4096
 la:N.ar.length≤16384
 lt:N.ts.length≤256
 tabs:∀ t∈N.ts,Qtn t
 verts:∀ v∈N.vs,Rdn N.ts.length v
 arcs:∀ a∈N.ar,ArcOk N.vs.length a
 meet:∀ (i:Nat) v t,N.vs[i]?=some v→N.ts[v.2.2.toNat]?=some t→(cntTo N.ar i:Int)=t.ins∧(cntFr N.ar i:Int)=t.outs
attribute [local go_sem ↓] Go.wp_at_zero Go.wp_at_succ
def Wg (B:Nat)(w:World)(A:Oz)(k c:Nat):Prop:=∃ xs,Own w B 112 2 A k c xs∧(∀ u∈xs,u.oneCell'=true)∧k≤1000000
theorem Wg.none (B:Nat)(w:World):Wg B w none 0 0:=⟨[],Own.nil _ _ _ _,Sm,Oo⟩
theorem Wg.setCell {B:Nat}{w:World}{A:Oz}{k c:Nat}(h:Wg B w A k c){a:Addr}(ha:a.block<B)(u:Value):Wg B (w.setCell a u) A k c:=by obtain ⟨xs,h1,h2⟩:=h;exact ⟨xs,ownsRow_setCell_below h1 ha u,h2⟩
theorem Wg.mono {B B':Nat}{w:World}{A:Oz}{k c:Nat}(h:Wg B w A k c)(hB:B'≤B):Wg B' w A k c:=by obtain ⟨xs,h1,h2⟩:=h;exact ⟨xs,h1.mono hB,h2⟩
theorem Wg.below {B:Nat}{w w':World}{A:Oz}{k c:Nat}(h:Wg B w A k c)(hb:Bw w w'):Wg B w' A k c:=by obtain ⟨xs,h1,h2⟩:=h;exact ⟨xs,h1.below hb,h2⟩
theorem Wg.alloc {B:Nat}{w:World}{A:Oz}{k c:Nat}(h:Wg B w A k c)(o:Obj):Wg B (w.alloc o) A k c:=by obtain ⟨xs,h1,h2⟩:=h;exact ⟨xs,h1.alloc o,h2⟩
theorem Wg.drewN {B:Nat}{w:World}{A:Oz}{k c:Nat}(h:Wg B w A k c)(n:Nat):Wg B (w.drewN n) A k c:=h
def Qdf (G:Prop)(B:Nat)(e:Ending)(w:World):Prop:=∃ (A:Oz) (k c:Nat) (x:Int),e=.returned (.agg #[.slice A k c,.int .i64 x])∧Wg B w A k c∧((x=0∧G)∨x≠0)
theorem Qdf.no {G:Prop}{B:Nat}{w:World}{A:Oz}{k c:Nat}{x:Int}(hg:Wg B w A k c)(hx:x≠0):Qdf G B (.returned (.agg #[.slice A k c,.int .i64 x])) w:=⟨A,k,c,x,rfl,hg,.inr hx⟩
def Qca (G:Prop)(e:Ending):Prop:=∃ (A:Oz) (k c:Nat) (x:Int),e=.returned (.agg #[.slice A k c,.int .i64 x])∧((x=0∧G)∨x≠0)
theorem Qca.no {G:Prop}{A:Oz}{k c:Nat}{x:Int}(hx:x≠0):Qca G (.returned (.agg #[.slice A k c,.int .i64 x])):=⟨A,k,c,x,rfl,.inr hx⟩
def RetAgg (B:Nat)(x:Int)(e:Ending)(w:World):Prop:=∃ (A:Oz) (k c:Nat),e=.returned (.agg #[.slice A k c,.int .i64 x])∧Wg B w A k c
theorem Qax (s:ByteArray)(k c:Int)(w:World):Calls prog 28 #[.string s,.int .i64 k,.int .i64 c] w fun e w'=>RetAgg w.heap.size c e w'∧Bw w w':=by
 go_enter func28,ntmps28
 go_wp2;refine bodyPost_ret (v:=.agg #[.slice (some ⟨w.heap.size+1,0,none⟩) 1 1,.int .i64 c]) (by simp [results,results28,go_sem]) rfl ?_;refine ⟨⟨_,_,_,rfl,Wg.mono (B:=w.heap.size+1) ?_ Oo⟩,Qag⟩;have hz:∀ o,(w.alloc o).heap.size=w.heap.size+1:=fun o=>by show (w.heap.push o).size=_;exact Array.size_push ..
 have hO:=Own.lit (B:=w.heap.size+1) (s:=2) (e:=112) (w.alloc (.cells #[.slice (some ⟨w.heap.size+1,0,none⟩) 1 1,.int .i64 c] 53)) #[.string s,.int .i64 k] 1 (by rw [hz];exact Zn _) Oo rfl;rw [hz] at hO;refine ⟨_,hO,?_,Oo⟩;simp [Value.oneCell']
theorem Rig {a:Int} (h:¬(0≤a∧a≤2147483648)):wOk a=(a == 1152921504606846976):=by unfold wOk;have:(decide (0≤a) && decide (a≤2147483648))=false:=by{cases e:(decide (0≤a) && decide (a≤2147483648));{rfl};{simp only [Bool.and_eq_true,decide_eq_true_eq] at e;exact absurd e h}};rw [this,Bool.false_or];by_cases h2:a=1152921504606846976;{simp [h2]};{rw [decide_eq_false h2];symm;simpa using h2}
theorem Qgs (a:Int)(w:World):Calls prog 158 #[.int .i64 a] w fun e w'=>e=.returned (.bool (wOk a))∧w=w':=by by_cases h0:0≤a;{by_cases h1:a≤2147483648;{(go_enter func158,ntmps158);go_wp2;go_ret;exact ⟨Qao (by simp [wOk,h0,h1]),rfl⟩};{(go_enter func158,ntmps158);go_wp2;go_ret;exact ⟨Qao (Rig Oo).symm,rfl⟩}};{(go_enter func158,ntmps158);go_wp2;go_ret;exact ⟨Qao (Rig Oo).symm,rfl⟩}
theorem Qit (a:Int)(w:World):Calls prog 163 #[.int .i64 a] w fun e w'=>e=.returned (.bool (wOk a))∧w=w':=by by_cases hI:a=1152921504606846976;{subst hI;(go_enter func163,ntmps163);go_wp2;go_ret;exact ⟨Qao Sd,rfl⟩};{(have h9:(a == 1152921504606846976)=false:=by simpa using hI);have HI:=Zh hI;clear hI;by_cases h0:0≤a;{(go_enter func163,ntmps163);go_wp2;go_ret;exact ⟨Qao (by unfold wOk;rw [decide_eq_true h0,decide_eq_false HI.o];simp),rfl⟩};{(go_enter func163,ntmps163);go_wp2;go_ret;exact ⟨Qao (by rw [Rig Oo];exact h9.symm),rfl⟩}}
theorem Qtz (x:Int)(w:World):Calls prog 157 #[.int .i64 x] w fun e w'=>e=.returned (.bool (Qis x))∧w=w':=by
 by_cases h1 : -1048576≤x
 all_goals
  go_enter func157,ntmps157
  go_wp2
  go_ret
  exact ⟨Qao (by simp [Qis];omega),rfl⟩
theorem far_ok (x:Int)(w:World)(h:Qis x=true):Calls prog 161 #[.int .i64 x] w fun e w'=>e=.returned (.bool false)∧w=w':=by
 unfold Qis at h;simp only [Bool.and_eq_true,decide_eq_true_eq] at h;obtain ⟨h1,h2⟩:=h;go_enter func161,ntmps161
 go_wp2;go_ret;exact ⟨Qao (by simp;omega),rfl⟩
theorem Qwb (A B C:Oz)(n m k c d e:Nat)(v:Int)(w:World)(h0:0≤v)(h1:v<n) :
 Calls prog 162 #[.agg #[.slice A n c,.slice B m d,.slice C k e],.int .i64 v] w fun e w'=>e=.returned (.bool true)∧Bw w w':=by
 go_enter func162,ntmps162
 go_wp2;go_ret;exact ⟨rfl,Qag⟩
theorem Rak (i o:Int)(w:World)(i0:0≤i)(i16:i≤16)(o0:0≤o)(o16:o≤16):Calls prog 209 #[.int .i64 i,.int .i64 o] w fun e w'=>e=.returned .nilIface∧w=w':=by
 go_enter func209,ntmps209
 go_wp2;exact Kax
theorem Quz {a b:Int}(a0:0≤a)(a16:a≤16)(b0:0≤b)(b16:b≤16):0≤a*b∧a*b≤256 :=
 ⟨Int.mul_nonneg a0 b0,by
  have h1:a*b≤16*b:=Int.mul_le_mul_of_nonneg_right a16 b0;omega⟩
theorem Qwa (A:Oz)(n c:Nat)(t:Qgc)(w:World)(h:RdI w A n t.costs)(ht:Qtn t) :
 Calls prog 160 #[.agg #[.int .i64 t.ins,.int .i64 t.outs,.slice A n c]] w fun e w'=>e=.returned .nilIface∧Bw w w':=by
 obtain ⟨i,o,cs⟩:=t;have i0:0≤i:=ht.i0;have i16:i≤16:=ht.i16;have o0:0≤o:=ht.o0;have o16:o≤16:=ht.o16;have hm:=Quz i0 i16 o0 o16;have hl:(cs.length:Int)=i*o:=ht.len;have h:RdI w A n cs:=h;rw [h.1] at hl;have hok:=ht.ok;simp only at hok;have HOK:=Zh hok;have HL:=Zh hl;have j1:IntKind.i64.wrap (i*o)=i*o:=IntWalk.i64_in _ Oo;have j2:((n:Int) != i*o)=false:=by simpa using hl
 have j3:((n:Int) == i*o)=true:=by simpa using hl
 have HSD:=Zh (show ∀ V,Calls prog 209 #[.int .i64 i,.int .i64 o] V fun e w'=>e=.returned .nilIface∧V=w' from fun V=>Rak i o V i0 i16 o0 o16);have hn:n≤256:=Oo
 clear hok hl ht;go_enter func160,ntmps160
 go_wp2_with fail
 (refine Qab ?_;intro w1 hw1);have hb1:Bw w w1:=by rw [hw1];exact Qag
 have hB1:Blk w1 w.heap.size 198 #[.int .i64 i,.int .i64 o,.slice A n c]:=by rw [hw1];exact Blk.new _ _ _
 clear hw1;with_reducible refine (HSD.o _).mono ?_
 rintro e w' ⟨rfl,rfl⟩;have c0:=hB1.cell 0;have c1:=hB1.cell 1;have c2:=hB1.cell 2;simp only [Yo,Yn,List.getElem?_cons_succ] at c0 c1 c2;have h1:=h.below hb1;go_wp2_with fail
 go_loop [27] (fun q=>∃ k:Nat,k≤n∧q=.int .i64 k) (fun q=>n-(intOf q).toNat)
 case atStart=>exact ⟨0,Nat.zero_le _,rfl⟩
 case round =>
  obtain ⟨k,hk,rfl⟩:=hrel;by_cases hlt:k<n
  · obtain ⟨b,oo,x,rfl,hx,hc⟩:=h1.at_ hlt
    have HW:=Zh (show ∀ V,Calls prog 163 #[.int .i64 x] V fun e w'=>e=.returned (.bool true)∧V=w' from fun V=>by
     have:=Qit x V;rw [HOK.o x (Zm hx)] at this;exact this)
    (have i1:0≤(k:Int):=Oo);(have i2:(k:Int)<n:=Oo);clear hx;(go_wp2_with fail);(with_reducible refine (HW.o _).mono ?_);rintro e w' ⟨rfl,rfl⟩;(go_wp2_with fail);(go_round);(case rel=>exact ⟨k+1,Oo,by go_num⟩);case measure=>simp [intOf];omega
  {(go_wp2_with fail);go_ret;exact ⟨rfl,hb1⟩}
theorem Blk.three {w:World}{g:Nat}{t:TypeId}{a b c:Value} (h:Blk w g t #[a,b,c]):w.cell? ⟨g,0,none⟩=some a∧w.cell? ⟨g,1,none⟩=some b∧w.cell? ⟨g,2,none⟩=some c :=
 ⟨Zq h,Zq h,Zq h⟩
def Qws (f:Tri→Int)(l:List Tri)(n:Nat):Iz:=(List.range n).map (fun v:Nat=>((l.countP (fun a=>f a == (v:Int)):Nat):Int))
theorem Qml (f:Tri→Int)(l:List Tri)(n:Nat):(Qws f l n).length=n:=by simp [Qws]
theorem Qdi {f:Tri→Int}{l:List Tri}{n v:Nat}(h:v<n):(Qws f l n)[v]?=some ((l.countP (fun a=>f a == (v:Int)):Nat):Int):=by unfold Qws;rw [Yt,List.getElem?_range h];rfl
theorem Qjt (f:Tri→Int)(n:Nat):Qbr (Qws f [] n)=Qbg (.int .i64 0) n:=by
 rw [Qbx];congr 1
 apply List.ext_getElem?;intro i;rcases Nat.lt_or_ge i n with h|h
 {rw [Qdi h];simp [h]};{rw [Yd (by rw [Qml];exact h),Yd (by simpa using h)]}
theorem Qjs {f:Tri→Int}{l:List Tri}{n v k:Nat}{a:Tri} (ha:l[k]?=some a) (hv:f a=(v:Int)) (h:v<n) :
 (Qws f (l.take k) n).set v ((((l.take k).countP (fun a=>f a == (v:Int)):Nat):Int)+1)=Qws f (l.take (k+1)) n:=by
 apply List.ext_getElem?;intro i;rw [Yf (Zs ha).1,(Zs ha).2];rcases Nat.lt_or_ge i n with hi|hi
 {rw [Qdi hi,List.countP_append];by_cases e:v=i;{subst e;rw [Yg (by rw [Qml];exact h)];simp [hv]};{rw [Yh e,Qdi hi];(have:(f a == (i:Int))=false:=by rw [hv];simp;omega);simp [this]}};{rw [Yd (by rw [Yq,Qml];exact hi),Yd (by rw [Qml];exact hi)]}
theorem Qni (f:Tri→Int)(l:List Tri)(k:Nat)(v:Int):(l.take k).countP (fun a=>f a == v)≤k:=Yx List.countP_le_length (List.length_take_le _ _)
theorem meet_ok (A B C:Oz)(n m k c d e:Nat)(N:Qak)(w:World)(h:Qcp w A B C n m k N)(hN:Qar N) :
 Calls prog 164 #[.agg #[.slice A n c,.slice B m d,.slice C k e]] w fun e w'=>e=.returned .nilIface∧Bw w w':=by
 obtain ⟨hv,ha,ht⟩:=h;have HLV:=Zh hv.1;have HLA:=Zh ha.1;have HLT:=Zh ht.1;have hn:n≤4096:=by rw [←hv.1];exact hN.lv
 have hm:m≤16384:=by rw [←ha.1];exact hN.la
 have hmk:=Qdp n Oo;have HN:=Zh hN;clear hN;go_enter func164,ntmps164
 go_wp2_with fail
 (refine Qai ?_;intro w1 hw1);have hb1:Bw w w1:=by rw [hw1];exact Qag
 have hN1:Blk w1 w.heap.size 121 #[.slice A n c,.slice B m d,.slice C k e]:=by rw [hw1];exact Qbi
 have hI1:Blk w1 (w.heap.size+1) 3 (Qbg (.int .i64 0) n):=by rw [hw1];exact Qbi
 have hO1:Blk w1 (w.heap.size+1+1) 3 (Qbg (.int .i64 0) n):=by rw [hw1];exact Qbi
 clear hw1 hmk;go_loopw [21] (fun q W=>∃ i:Nat,i≤m∧q=.int .i64 i∧Bw w W∧Blk W w.heap.size 121 #[.slice A n c,.slice B m d,.slice C k e]∧Blk W (w.heap.size+1) 3 (Qbr (Qws (·.2.1) (N.ar.take i) n))∧Blk W (w.heap.size+1+1) 3 (Qbr (Qws (·.1) (N.ar.take i) n))) (fun q _=>m-(intOf q).toNat)
 case atStart=>exact ⟨0,Nat.zero_le _,rfl,hb1,hN1,by rw [List.take_zero,Qjt];exact hI1,by rw [List.take_zero,Qjt];exact hO1⟩
 case round =>
  clear hb1 hN1 hI1 hO1;obtain ⟨i,hi,rfl,hbl,hNN,hI,hO⟩:=hrel;by_cases hlt:i<m
  {obtain ⟨b,o,x,y,z,rfl,hx,cx,cy,cz⟩:=(ha.below hbl).at_ hlt;(have hok:=HN.o.arcs _ (Zm hx);have f0:=hok.f0;have f1:=hok.f1;have g0:=hok.g0;have g1:=hok.g1;simp only at f0 f1 g0 g1;rw [HLV.o] at f1 g1;obtain ⟨u,rfl⟩:∃ u:Nat,x=u:=⟨x.toNat,Oo⟩;obtain ⟨v,rfl⟩:∃ v:Nat,y=v:=⟨y.toNat,Oo⟩;have hu:u<n:=Oo);(have hvn:v<n:=Oo);(have hx1:=Qjs (f:=(·.2.1)) (n:=n) (v:=v) hx rfl hvn;have hx2:=Qjs (f:=(·.1)) (n:=n) (v:=u) hx rfl hu;have c1:=hI.cellI (Qdi (f:=(·.2.1)) (l:=N.ar.take i) hvn);have c2:=hO.cellI (Qdi (f:=(·.1)) (l:=N.ar.take i) hu);have d1:=Qni (·.2.1) N.ar i v;have d2:=Qni (·.1) N.ar i u;have HX1:=Zh hx1;have HX2:=Zh hx2;clear hx1 hx2;generalize (N.ar.take i).countP (fun a=>a.2.1 == (v:Int))=p at *;generalize (N.ar.take i).countP (fun a=>a.1 == (u:Int))=q at *;have q1:=hI.frozen v;have q2:=hO.frozen u;have z1:=hI.lt;have z2:=hO.lt;have i1:0≤(i:Int):=Oo);(have i2:(i:Int)<m:=Oo);(have hz:=hbl.size;obtain ⟨W2,hW2⟩:=Zx (((wr.setCell ⟨w.heap.size+1,v,none⟩ (.int .i64 ((p:Int)+1))).setCell ⟨w.heap.size+1+1,u,none⟩ (.int .i64 ((q:Int)+1))).alloc (.cells #[.int .i64 u,.int .i64 v,.int .i64 z] 197));have HW2:=Zh hW2;have hb2:Bw w W2:=by rw [hW2];exact Bel.alloc ((hbl.setCell Sn _).setCell Sn _));(have hN2:Blk W2 w.heap.size 121 #[.slice A n c,.slice (some ⟨b,o,none⟩) m d,.slice C k e]:=by rw [hW2];exact Qiq);have hI2:Blk W2 (w.heap.size+1) 3 (Qbr (Qws (·.2.1) (N.ar.take (i+1)) n)):=by{rw [hW2];exact ((hI.setI HX1.o).far_ Oo _).alloc _};have hO2:Blk W2 (w.heap.size+1+1) 3 (Qbr (Qws (·.1) (N.ar.take (i+1)) n)):=by{rw [hW2];exact (Blk.setI (hO.far_ Oo _) HX2.o).alloc _};have HI2:=Zh hI2;have HO2:=Zh hO2;have HN2:=Zh hN2;clear hW2 hx hok hI hO hNN hI2 hO2 hN2;(go_wp2_with fail);rw [←HW2.o];go_roundw;(case rel=>exact ⟨i+1,Oo,by go_num,hb2,HN2.o,HI2.o,HO2.o⟩);case measure=>simp [intOf];omega};{(obtain rfl:i=m:=Oo);rw [Ye (by rw [HLA.o];exact Zn _)] at hI hO;obtain ⟨w2,hw2⟩:=Zx wr;subst hw2;obtain ⟨n0,n1,n2⟩:=hNN.three;(go_wp2_with fail);clear n0 n1 n2;have hv2:=hv.below hbl;have ht2:=ht.below hbl;(go_loopw [43] (fun q W=>∃ j:Nat,j≤n∧q=.int .i64 j∧Bw w2 W) (fun q _=>n-(intOf q).toNat));(case atStart=>exact ⟨0,Nat.zero_le _,rfl,Zr _ _⟩);case round =>obtain ⟨j,hj,rfl,hb2⟩:=hrel;(by_cases hlt2:j<n);{obtain ⟨b,o,x,y,z,rfl,hx,cx,cy,cz⟩:=(hv2.below hb2).at_ hlt2;(have hok:=HN.o.verts _ (Zm hx);have t0:=hok.t0;have t1:=hok.t1;simp only at t0 t1;rw [HLT.o] at t1;obtain ⟨u,rfl⟩:∃ u:Nat,z=u:=⟨z.toNat,Oo⟩;have hu:u<k:=Oo);obtain ⟨b',o',t,rfl,htt,k0,k1,A',n',c',k2,_,_,_⟩:=(ht2.below hb2).at_ hu;have hm1:=HN.o.meet j _ t hx (by simpa using htt);have hT:=HN.o.tabs t (Zm htt);have m1:(cntTo N.ar j:Int)=t.ins:=hm1.1;have m2:(cntFr N.ar j:Int)=t.outs:=hm1.2;have b1:=hT.i16;have b2:=hT.o16;have b3:=hT.i0;have b4:=hT.o0;have hIr:=hI.below hb2 hI.lt;have hOr:=hO.below hb2 hO.lt;have hNr:=hNN.below hb2 hNN.lt;obtain ⟨_,_,n2⟩:=hNr.three;have c1:=hIr.cellI (Qdi (f:=(·.2.1)) (l:=N.ar) hlt2);have c2:=hOr.cellI (Qdi (f:=(·.1)) (l:=N.ar) hlt2);have HC:=Zh (show ∀ V,Bw wr V→V.cell? ⟨w.heap.size+1,j,none⟩=some (.int .i64 ((N.ar.countP (fun a=>a.2.1 == (j:Int)):Nat):Int))∧V.cell? ⟨w.heap.size+1+1,j,none⟩=some (.int .i64 ((N.ar.countP (fun a=>a.1 == (j:Int)):Nat):Int)) from fun V hV=>⟨Zc hV (Zn _) c1,Zc hV (Zn _) c2⟩);(unfold cntTo at m1;unfold cntFr at m2;generalize N.ar.countP (fun a=>a.2.1 == (j:Int))=p at *;generalize N.ar.countP (fun a=>a.1 == (j:Int))=q at *;obtain ⟨ti,to_,tc⟩:=t;simp only at m1 m2 b1 b2 b3 b4 k0 k1;subst m1;subst m2;have z0:=hNr.lt;have z1:=hIr.lt;have z2:=hOr.lt;have i1:0≤(j:Int):=Oo);(have i2:(j:Int)<n:=Oo);(have i3:0≤(u:Int):=Oo);(have i4:(u:Int)<k:=Oo);(have zb:b'<wr.heap.size:=Qaj k0);clear hx hok htt hm1 hT hNr;(go_wp2_with fail);(refine Qai ?_;intro w3 hw3);(have hb3:Bw wr w3:=by rw [hw3];exact Qag);(have hT3:Blk w3 (wr.heap.size+1) 198 #[.int .i64 p,.int .i64 q,.slice A' n' c']:=by rw [hw3];exact Qbi);(obtain ⟨c1',c2'⟩:=HC.o w3 hb3;obtain ⟨t0',t1',t2'⟩:=hT3.three;clear hw3 c1 c2 cx cy cz k0 k1 k2 n2;have d1:(((p:Nat):Int) != ((p:Nat):Int))=false:=Sm);(have d2:(((q:Nat):Int) != ((q:Nat):Int))=false:=Sm);(go_wp2_with fail);(go_quiet (fail));(go_wp2_with fail);go_roundw;(case rel=>exact ⟨j+1,Oo,by go_num,Qbd (Zb hb2 hb3) _⟩);case measure=>simp [intOf];omega};{(go_wp2_with fail);go_ret;exact ⟨rfl,Zb hbl hb2⟩}}
theorem Qxx (A B C:Oz)(n m k c d e:Nat)(N:Qak)(w:World)(h:Qcp w A B C n m k N)(hN:Qar N) :
 Calls prog 106 #[.agg #[.slice A n c,.slice B m d,.slice C k e]] w fun e w'=>e=.returned .nilIface∧Bw w w':=by
 have HH:=Zh h;have HLV:=Zh h.1.1;have HLA:=Zh h.2.1.1;have HLT:=Zh h.2.2.1;have hn:n≤4096:=by rw [←h.1.1];exact hN.lv
 have hm:m≤16384:=by rw [←h.2.1.1];exact hN.la
 have hk:k≤256:=by rw [←h.2.2.1];exact hN.lt
 have j0:¬(n:Int) > 4096:=Oo
 have j1:¬(m:Int) > 16384:=Oo
 have j2:¬(k:Int) > 256:=Oo
 have HN:=Zh hN;clear hN h;go_enter func106,ntmps106
 go_wp2_with fail
 (refine Qai ?_;intro w1 hw1);have hb1:Bw w w1:=by rw [hw1];exact Qag
 have hN1:Blk w1 w.heap.size 121 #[.slice A n c,.slice B m d,.slice C k e]:=by rw [hw1];exact Blk.new _ _ _
 have H1:=Zh (HH.o.below hb1);clear hw1 j0 j1 j2;go_loopw [34] (fun q W=>∃ i:Nat,i≤k∧q=.int .i64 i∧Bw w1 W) (fun q _=>k-(intOf q).toNat)
 case atStart=>exact ⟨0,Nat.zero_le _,rfl,Zr _ _⟩
 case round =>
  obtain ⟨i,hi,rfl,hbl⟩:=hrel;by_cases hlt:i<k
  {obtain ⟨b,o,t,rfl,ht,k0,k1,A',n',c',k2,hr,_,_⟩:=(H1.o.2.2.below hbl).at_ hlt;(have i1:0≤(i:Int):=Oo);(have i2:(i:Int)<k:=Oo);have hT:=HN.o.tabs t (Zm ht);have HTC:=Zh (show ∀ V,Bw wr V→Calls prog 160 #[.agg #[.int .i64 t.ins,.int .i64 t.outs,.slice A' n' c']] V fun e w'=>e=.returned .nilIface∧Bw V w' from fun V hV=>Qwa A' n' c' t V (hr.below hV) hT);clear ht hT;(go_wp2_with fail);(refine Qab ?_;intro w2 hw2);(have hb2:Bw wr w2:=by rw [hw2];exact Qag);(clear hw2;with_reducible refine (HTC.o w2 hb2).mono ?_);rintro e w3 ⟨rfl,hb3⟩;(go_wp2_with fail);go_roundw;(case rel=>exact ⟨i+1,Oo,by go_num,Zb hbl (Zb hb2 hb3)⟩);case measure=>simp [intOf];omega}
  · obtain ⟨w2,hw2⟩:=Zx wr;subst hw2;obtain ⟨n0,n1,n2⟩:=(hN1.below hbl hN1.lt).three;(go_wp2_with fail);clear n0 n1 n2;(go_loopw [50] (fun q W=>∃ j:Nat,j≤n∧q=.int .i64 j∧Bw w1 W) (fun q _=>n-(intOf q).toNat));case atStart=>exact ⟨0,Nat.zero_le _,rfl,hbl⟩
    case round =>
     clear hbl;obtain ⟨j,hj,rfl,hbl⟩:=hrel;have hNr:=hN1.below hbl hN1.lt;obtain ⟨n0,n1,n2⟩:=hNr.three;have zz:=hNr.lt;(by_cases hlt2:j<n);{obtain ⟨b,o,x,y,z,rfl,hx,cx,cy,cz⟩:=(H1.o.1.below hbl).at_ hlt2;have hok:=HN.o.verts _ (Zm hx);have t0:=hok.t0;have t1:=hok.t1;simp only at t0 t1;rw [HLT.o] at t1;have HF1:=Zh (show ∀ V,Calls prog 161 #[.int .i64 x] V fun e w'=>e=.returned (.bool false)∧V=w' from fun V=>far_ok x V hok.x);have HF2:=Zh (show ∀ V,Calls prog 161 #[.int .i64 y] V fun e w'=>e=.returned (.bool false)∧V=w' from fun V=>far_ok y V hok.y);(have i1:0≤(j:Int):=Oo);(have i2:(j:Int)<n:=Oo);(have t2:¬z<0:=Oo);(have t3:¬z ≥ (k:Int):=Oo);clear hx hok hNr;(go_wp2_with fail);(with_reducible refine (HF1.o _).mono ?_);rintro e w' ⟨rfl,rfl⟩;(go_wp2_with fail);(with_reducible refine (HF2.o _).mono ?_);rintro e w' ⟨rfl,rfl⟩;(go_wp2_with fail);go_roundw;(case rel=>exact ⟨j+1,Oo,by go_num,Bel.alloc hbl⟩);case measure=>simp [intOf];omega}
     · obtain ⟨w3,hw3⟩:=Zx wr;subst hw3;clear zz hNr;(go_wp2_with fail);clear n0 n1 n2;(go_loopw [86] (fun q W=>∃ j:Nat,j≤m∧q=.int .i64 j∧Bw w1 W) (fun q _=>m-(intOf q).toNat));case atStart=>exact ⟨0,Nat.zero_le _,rfl,hbl⟩
       case round =>
        clear hbl;obtain ⟨q,hq,rfl,hbl⟩:=hrel;have hNr:=hN1.below hbl hN1.lt;obtain ⟨n0,n1,n2⟩:=hNr.three;have zz:=hNr.lt;by_cases hlt3:q<m
        · obtain ⟨b,o,x,y,z,rfl,hx,cx,cy,cz⟩:=(H1.o.2.1.below hbl).at_ hlt3;have hok:=HN.o.arcs _ (Zm hx);have HV1:=Zh (show ∀ V,Calls prog 162 #[.agg #[.slice A n c,.slice (some ⟨b,o,none⟩) m d,.slice C k e],.int .i64 x] V fun e w'=>e=.returned (.bool true)∧Bw V w' from fun V=>Qwb A _ C n m k c d e x V hok.f0 (by have:=hok.f1;rw [HLV.o] at this;exact this));have HV2:=Zh (show ∀ V,Calls prog 162 #[.agg #[.slice A n c,.slice (some ⟨b,o,none⟩) m d,.slice C k e],.int .i64 y] V fun e w'=>e=.returned (.bool true)∧Bw V w' from fun V=>Qwb A _ C n m k c d e y V hok.g0 (by have:=hok.g1;rw [HLV.o] at this;exact this))
          have HW:=Zh (show ∀ V,Calls prog 163 #[.int .i64 z] V fun e w'=>e=.returned (.bool true)∧V=w' from fun V=>by
           have:=Qit z V;rw [hok.w] at this;exact this)
          (have i1:0≤(q:Int):=Oo);(have i2:(q:Int)<m:=Oo);clear hx hok;(go_wp2_with fail);(refine Qab ?_;intro w4 hw4);(have hb4:Bw wr w4:=by rw [hw4];exact Qag);(have hA4:Blk w4 wr.heap.size 197 #[.int .i64 x,.int .i64 y,.int .i64 z]:=by rw [hw4];exact Qbi);(clear hw4;with_reducible refine (HV1.o w4).mono ?_);rintro e w5 ⟨rfl,hb5⟩;have hb45:Bw wr w5:=Zb hb4 hb5;have hA5:=hA4.below hb5 hA4.lt;have hN5:=hNr.below hb45 hNr.lt;clear n0 n1 n2;obtain ⟨n0,n1,n2⟩:=hN5.three;obtain ⟨a0,a1,a2⟩:=hA5.three;clear hA4 hb4 hb5;(go_wp2_with fail);(with_reducible refine (HV2.o w5).mono ?_);rintro e w6 ⟨rfl,hb6⟩;have hb46:Bw wr w6:=Zb hb45 hb6;obtain ⟨_,_,a2'⟩:=(hA5.below hb6 hA5.lt).three;clear a0 a1 a2 n0 n1 n2 hb6 hb45;(go_wp2_with fail);(with_reducible refine (HW.o _).mono ?_);rintro e w' ⟨rfl,rfl⟩;(go_wp2_with fail);go_roundw;(case rel=>exact ⟨q+1,Oo,by go_num,Zb hbl hb46⟩);case measure=>simp [intOf];omega
        {have HM:=Zh (meet_ok A B C n m k c d e N wr (H1.o.below hbl) HN.o);clear zz hNr;(go_wp2_with fail);(with_reducible refine HM.o.mono ?_);rintro e w4 ⟨rfl,hb4⟩;(go_wp2_with fail);go_ret;exact ⟨rfl,Zb hb1 (Zb hbl hb4)⟩}
theorem Qll (A:Oz)(n c:Nat)(t:Qgc)(w:World)(h:RdI w A n t.costs)(hn:n≤9223372036854775807) :
 Calls prog 155 #[.agg #[.int .i64 t.ins,.int .i64 t.outs,.slice A n c]] w fun e w'=>Qdf (Qtn t) w.heap.size e w'∧Bw w w':=by
 obtain ⟨i,o,cs⟩:=t;have h:RdI w A n cs:=h;simp only;by_cases i0:i<0
 {(go_enter func155,ntmps155);(go_wp2_with fail);(refine Qab ?_;intro w5 hw5);(have hB5:Blk w5 (w.heap.size+1) 53 #[.slice none 0 0,.int .i64 0]:=by rw [hw5];exact Qbi);(have hb5:Bw w w5:=by rw [hw5];exact Qag);exact Kam};by_cases i1:i > 16;{(go_enter func155,ntmps155);(go_wp2_with fail);(refine Qab ?_;intro w5 hw5);(have hB5:Blk w5 (w.heap.size+1) 53 #[.slice none 0 0,.int .i64 0]:=by rw [hw5];exact Qbi);(have hb5:Bw w w5:=by rw [hw5];exact Qag);exact Kam};by_cases o0:o<0
 {(go_enter func155,ntmps155);(go_wp2_with fail);(refine Qab ?_;intro w5 hw5);(have hB5:Blk w5 (w.heap.size+1) 53 #[.slice none 0 0,.int .i64 0]:=by rw [hw5];exact Qbi);(have hb5:Bw w w5:=by rw [hw5];exact Qag);exact Kam};by_cases o1:o > 16;{(go_enter func155,ntmps155);(go_wp2_with fail);(refine Qab ?_;intro w5 hw5);(have hB5:Blk w5 (w.heap.size+1) 53 #[.slice none 0 0,.int .i64 0]:=by rw [hw5];exact Qbi);(have hb5:Bw w w5:=by rw [hw5];exact Qag);exact Kam};have hm:=Quz (a:=i) (b:=o) Oo Oo Oo Oo;have j1:IntKind.i64.wrap (i*o)=i*o:=IntWalk.i64_in _ Oo;by_cases hl:(n:Int)=i*o;rotate_left;{(have j2:((n:Int) != i*o)=true:=by simpa using hl);(have j3:((n:Int) == i*o)=false:=by simpa using hl);clear hl;(go_enter func155,ntmps155);(go_wp2_with fail);(refine Qab ?_;intro w5 hw5);(have hB5:Blk w5 (w.heap.size+1) 53 #[.slice none 0 0,.int .i64 0]:=by rw [hw5];exact Qbi);(have hb5:Bw w w5:=by rw [hw5];exact Qag);(clear hw5;with_reducible refine (Qax _ _ _ _).mono ?_);rintro e w2 ⟨⟨A4,n4,m4,rfl,hg4⟩,hb⟩;have hB2:=Blk.below hB5 hb hB5.lt;obtain ⟨c0,c1,f0,f1⟩:=hB2.two;have hb2:Bw w w2:=Zb hb5 hb;(go_wp2_with fail);refine bodyPost_ret (v:=.agg #[.slice A4 n4 m4,.int .i64 9]) (by simp [results,results155,go_sem,c0,c1]) rfl ?_;exact Kag};have j2:((n:Int) != i*o)=false:=by simpa using hl
 have j3:((n:Int) == i*o)=true:=by simpa using hl
 have hn:n≤256:=Oo
 have HL:=Zh hl;clear hl;go_enter func155,ntmps155
 go_wp2_with fail
 (refine Qai ?_;intro w1 hw1);have hb1:Bw w w1:=by rw [hw1];exact Qag
 have hT1:Blk w1 w.heap.size 137 #[.int .i64 i,.int .i64 o,.slice A n c]:=by rw [hw1];exact Qbi
 have hB1:Blk w1 (w.heap.size+1) 53 #[.slice none 0 0,.int .i64 0]:=by rw [hw1];exact Qbi
 clear hw1;go_loopw [3] (fun q W=>∃ k:Nat,k≤n∧q=.int .i64 k∧Bw w W∧Blk W w.heap.size 137 #[.int .i64 i,.int .i64 o,.slice A n c]∧Blk W (w.heap.size+1) 53 #[.slice none 0 0,.int .i64 0]∧∀ j x,j<k→cs[j]?=some x→wOk x=true) (fun q _=>n-(intOf q).toNat)
 case atStart=>exact ⟨0,Nat.zero_le _,rfl,hb1,hT1,hB1,fun _ _ h=>absurd h (Nat.not_lt_zero _)⟩
 case round =>
  clear hb1 hT1 hB1;obtain ⟨k,hk,rfl,hbl,hT,hB,hall⟩:=hrel;have HA:=Zh hall;clear hall;obtain ⟨t0,t1,t2⟩:=hT.three;have zT:=hT.lt;by_cases hlt:k<n
  · obtain ⟨b,oo,x,rfl,hx,hc⟩:=(h.below hbl).at_ hlt;(have i2:0≤(k:Int):=Oo);(have i3:(k:Int)<n:=Oo);have HX:=Zh hx;clear hx;cases hw:wOk x
    · have HW:=Zh (show ∀ V,Calls prog 158 #[.int .i64 x] V fun e w'=>e=.returned (.bool false)∧V=w' from fun V=>by
       have:=Qgs x V;rw [hw] at this;exact this)
      (go_wp2_with fail);(with_reducible refine (HW.o _).mono ?_);rintro e w' ⟨rfl,rfl⟩;(go_wp2_with fail);(refine Qab ?_;intro w5 hw5);(have hB5:Blk w5 (w.heap.size+1) 53 #[.slice none 0 0,.int .i64 0]:=by rw [hw5];exact Qbi);(have hb5:Bw w w5:=by rw [hw5];exact Qag);(clear hw5;with_reducible refine (Qax _ _ _ _).mono ?_);rintro e w2 ⟨⟨A4,n4,m4,rfl,hg4⟩,hb⟩;have hB2:=Blk.below hB5 hb hB5.lt;obtain ⟨c0,c1,f0,f1⟩:=hB2.two;have hb2:Bw w w2:=Zb hb5 hb;(go_wp2_with fail);refine bodyPost_ret (v:=.agg #[.slice A4 n4 m4,.int .i64 8]) (by simp [results,results155,go_sem,c0,c1]) rfl ?_;first | exact ⟨Qca.no Sd,Qag⟩ | exact ⟨Qdf.no (Wg.mono (B:=w5.heap.size) (Wg.setCell (Wg.setCell hg4 hB5.lt _) hB5.lt _) hb5.size) Sd,Qag⟩
    · have HW:=Zh (show ∀ V,Calls prog 158 #[.int .i64 x] V fun e w'=>e=.returned (.bool true)∧V=w' from fun V=>by
       have:=Qgs x V;rw [hw] at this;exact this)
      have HW2:=Zh hw;clear hw;(go_wp2_with fail);(with_reducible refine (HW.o _).mono ?_);rintro e w' ⟨rfl,rfl⟩;(go_wp2_with fail);go_roundw;(case rel =>refine ⟨k+1,Oo,by go_num,hbl,hT,hB,fun j y hj hy=>?_⟩;by_cases e:j=k;{subst e;rw [HX.o] at hy;cases hy;exact HW2.o};{exact HA.o j y Oo hy});case measure=>simp [intOf];omega
  {(obtain rfl:k=n:=Oo);have zB:=hB.lt;obtain ⟨c0,c1,f0,f1⟩:=hB.two;(go_wp2_with fail);refine bodyPost_ret (v:=.agg #[.slice none 0 0,.int .i64 0]) (by simp [results,results155,go_sem,c0,c1]) rfl ?_;refine ⟨⟨_,_,_,_,rfl,Wg.none _ _,.inl ⟨rfl,⟨Sn,Sn,Sn,Sn,?_,?_⟩⟩⟩,Qag⟩;{simp only;rw [h.1];exact HL.o};{intro y hy;obtain ⟨j,hj⟩:=Yr hy;exact HA.o j y (by rw [←h.1];exact (Zs hj).1) hj}}
theorem infoPart:(Tryz.prog.info? 112).map (fun i=>(i.zero,i.size,i.bytes))=some (some (.agg #[.string ⟨#[]⟩,.int .i64 0]),2,24):=Kf
theorem Qsr (s:ByteArray)(at_:Int)(A:Oz)(k c B:Nat)(x:Int)(w:World)(hx:x≠0)(hg:Wg B w A k c) :
 Calls prog 156 #[.string s,.int .i64 at_,.agg #[.slice A k c,.int .i64 x]] w fun e w'=>(∃ A' k' c',e=.returned (.agg #[.slice A' k' c',.int .i64 x]))∧Bw w w':=by
 obtain ⟨xs,ho,hone,hk⟩:=hg;have hr:=ho.rds;have HR:=Zh hr;have HO:=Zh hone;clear ho hone hr;go_enter func156,ntmps156
 go_wp2_with fail
 (refine Qai ?_;intro w1 hw1);have hb1:Bw w w1:=by rw [hw1];exact Qag
 have hT1:Blk w1 w.heap.size 53 #[.slice A k c,.int .i64 x]:=by rw [hw1];exact Qbi
 have hB1:Blk w1 (w.heap.size+1) 53 #[.slice none 0 0,.int .i64 0]:=by rw [hw1];exact Qbi
 have hz1:w1.heap.size=w.heap.size+1+1:=by rw [hw1];simp
 clear hw1;obtain ⟨t0,t1,_,_⟩:=hT1.two;go_wp2_with fail
 have hb0:Below (w.heap.size+1) w1 w1.drew:=(Zr _ _).drew;have HSX:=Zh (show ∀ V,Below (w.heap.size+1) w1 V→V.cell? ⟨w.heap.size,0,none⟩=some (.slice A k c)∧V.cell? ⟨w.heap.size,1,none⟩=some (.int .i64 x) from fun V hV=>⟨(hV.cell (Nat.lt_succ_self _)).trans t0,(hV.cell (Nat.lt_succ_self _)).trans t1⟩);refine wp_region_held_drew (S:=fun V=>Below (w.heap.size+1) w1 V) Kf hb0 (fun _=>?_);refine tzb 0 11 ?_;refine tz 2 13 ?_;refine tzb 4 15 ?_;refine tzb 7 18 ?_;refine Zk 3 (fun K hK=>?_);go_simp;obtain ⟨W,hW⟩:=Zx ((w1.alloc (.cells #[.string s,.int .i64 at_] 112)).drew);rw [←hW];have hownW:Own W (w.heap.size+1+1) 112 2 (some ⟨w1.heap.size,0,none⟩) 1 1 [.string s,.int .i64 at_]:=by{rw [hW];exact Own.drew (Own.lit w1 #[.string s,.int .i64 at_] 1 Oo Oo rfl)};rw [hz1] at hownW;have hbW:Below (w.heap.size+1) w1 W:=by rw [hW];exact ((Zr _ _).alloc Oo _).drew
 have hB2:Blk W (w.heap.size+1) 53 #[.slice none 0 0,.int .i64 0]:=by rw [hW];exact Qiq
 have hrW:Rds W 2 A k xs:=HR.o.below (hb1.trans (hbW.mono Oo));have hzW:w.heap.size+1+1≤W.heap.size:=by have:=hbW.size;omega
 have hbwW:Bw w W:=hb1.trans (hbW.mono Oo);clear hW;refine hK.out _ _ hbW (fun _=>?_);clear hK K;refine Zk 6 (fun K hK=>?_);with_reducible refine Qbc (some 17) rfl rfl (.tmp 14) (.tmp 16) 51 rfl 112 _ 2 24 infoPart underlying51 rfl Oo rfl rfl hownW hrW HO.o Oo Oo hzW ?_
 intro A' c' w' hown' hg' _;have hb5:Below (w.heap.size+1) w1 w':=Zo hbW hg' (hownW.mono Oo) Oo;have hb6:Bw w w':=Zo hbwW hg' (hownW.mono Oo) Oo;have hB':=hB2.grown hg' (hownW.ne Oo);refine hK.out _ _ hb5 (fun _=>?_);clear hK K hownW hrW hg' hown';simp only [Act.put,Yi,Yj,Yk];obtain ⟨c0,c1,f0,f1⟩:=hB'.two;refine tz 9 20 ?_;refine Zk 10 (fun K hK=>?_);go_simp;refine hK.out _ _ ((hb5.setCell Sn _).setCell Sn _) (fun _=>?_);clear hK K;refine Zd ?_;go_wp2_with fail
 refine bodyPost_ret (v:=.agg #[.slice A' (1+k) c',.int .i64 x]) (by simp [results,results156,go_sem,c0,c1]) rfl ?_;exact ⟨⟨_,_,_,rfl⟩,Qag⟩
