/- Parts of the proof: Nv, Nt1, Nt2, Nt3, Nt4. -/
import Derived.Test.YthoagdpakddbdaaGreatDoorK1
namespace Go.Proofs.YthoagdpakddbdaaGreatDoor
open Go.RowKit Go.Proofs.Tryz
abbrev Tri:=Int×Int×Int
def Qao:List Tri→List Value
 | []=>[]
 | p::t=>.int .i64 p.1::.int .i64 p.2.1::.int .i64 p.2.2::Qao t
theorem Qfp:∀ l:List Tri,(Qao l).length=l.length*3
 | []=>rfl
 | _::t=>by simp [Qao,Qfp t];omega
theorem Qft:∀ l m:List Tri,Qao (l ++m)=Qao l ++Qao m
 | [],_=>rfl
 | p::t,m=>by simp [Qao,Qft t m]
theorem Qkt:∀ {l:List Tri}{i:Nat}{p:Tri},l[i]?=some p→(Qao l)[i*3]?=some (.int .i64 p.1)∧(Qao l)[i*3+1]?=some (.int .i64 p.2.1)∧(Qao l)[i*3+2]?=some (.int .i64 p.2.2)
 | [],i,p,h=>by simp at h
 | q::t,0,p,h=>by simp at h;subst h;simp [Qao]
 | q::t,i+1,p,h=>by
  have:=Qkt (l:=t) (i:=i) (p:=p) (by simpa using h);rw [show (i+1)*3=i*3+1+1+1 by omega,show i*3+1+1+1+1=(i*3+1)+1+1+1 by omega,show i*3+1+1+1+2=(i*3+2)+1+1+1 by omega]
  simpa [Qao] using this
theorem Qlc (l:List Tri):∀ u∈Qao l,u.oneCell'=true:=by
 induction l with
 | nil=>intro u hu;cases hu
 | cons p t ih =>
  intro u hu;simp only [Qao,List.mem_cons] at hu
  rcases hu with rfl|rfl|rfl|hu
  · rfl
  · rfl
  · rfl
  · exact ih u hu
def Rd3 (w:World)(A:Option Addr)(n:Nat)(l:List Tri):Prop :=
 l.length=n∧∀ i x,l[i]?=some x→∃ b o,A=some ⟨b,o,none⟩∧w.cell? ⟨b,o+i*3,none⟩=some (.int .i64 x.1)∧w.cell? ⟨b,o+i*3+1,none⟩=some (.int .i64 x.2.1)∧w.cell? ⟨b,o+i*3+2,none⟩=some (.int .i64 x.2.2)
theorem Rd3.at_ {w:World}{A:Option Addr}{n i:Nat}{l:List Tri}(h:Rd3 w A n l)(hi:i<n) :
 ∃ b o x y z,A=some ⟨b,o,none⟩∧l[i]?=some (x,y,z)∧w.cell? ⟨b,o+i*3,none⟩=some (.int .i64 x)∧w.cell? ⟨b,o+i*3+1,none⟩=some (.int .i64 y)∧w.cell? ⟨b,o+i*3+2,none⟩=some (.int .i64 z):=by
 have hl:i<l.length:=by rw [h.1];exact hi
 obtain ⟨b,o,e,hc⟩:=h.2 i _ (Zg hl);exact ⟨b,o,_,_,_,e,Zg hl,hc⟩
theorem Rd3.below {w w':World}{A:Option Addr}{n:Nat}{l:List Tri}(h:Rd3 w A n l)(hb:Below w.heap.size w w'):Rd3 w' A n l :=
 ⟨h.1,fun i x hx=>by
  obtain ⟨b,o,e,h1,h2,h3⟩:=h.2 i x hx;exact ⟨b,o,e,Zc hb (Zn _) h1,Zc hb (Zn _) h2,Zc hb (Zn _) h3⟩⟩
theorem Rds.rd3 {w:World}{n:Nat}{A:Option Addr}{l:List Tri} (h:Rds w 3 A n (Qao l)):Rd3 w A n l :=
 ⟨by have:=h.1;rw [Qfp] at this;omega,fun i p hp=>by
  obtain ⟨h1,h2,h3⟩:=Qkt hp;obtain ⟨b,o,e,c1⟩:=h.2 _ _ h1;obtain ⟨b',o',e',c2⟩:=h.2 _ _ h2;rw [e] at e';cases e'
  obtain ⟨b',o',e',c3⟩:=h.2 _ _ h3;rw [e] at e';cases e'
  exact ⟨b,o,e,c1,by rw [Nat.add_assoc];exact c2,by rw [Nat.add_assoc];exact c3⟩⟩
theorem Qnj:∀ {l:List Tri}{j:Nat}{u:Value},(Qao l)[j]?=some u→∃ p,l[j / 3]?=some p∧((j % 3=0∧u=.int .i64 p.1)∨(j % 3=1∧u=.int .i64 p.2.1)∨(j % 3=2∧u=.int .i64 p.2.2))
 | [],j,u,h=>by simp [Qao] at h
 | q::t,0,u,h=>by simp [Qao] at h;exact ⟨q,by simp,.inl ⟨rfl,h.symm⟩⟩
 | q::t,1,u,h=>by simp [Qao] at h;exact ⟨q,by simp,.inr (.inl ⟨rfl,h.symm⟩)⟩
 | q::t,2,u,h=>by simp [Qao] at h;exact ⟨q,by simp,.inr (.inr ⟨rfl,h.symm⟩)⟩
 | q::t,j+3,u,h=>by
  obtain ⟨p,h1,h2⟩:=Qnj (l:=t) (j:=j) (u:=u) (by simpa [Qao] using h);refine ⟨p,?_,?_⟩
  · rw [show (j+3) / 3=j / 3+1 by omega];simpa using h1
  · rw [show (j+3) % 3=j % 3 by omega];exact h2
theorem Rd3.rds {w:World}{n:Nat}{A:Option Addr}{l:List Tri}(h:Rd3 w A n l):Rds w 3 A n (Qao l) :=
 ⟨by rw [Qfp,h.1],fun j u hu=>by
  obtain ⟨p,hp,hu'⟩:=Qnj hu;obtain ⟨b,o,e,h1,h2,h3⟩:=h.2 _ p hp;refine ⟨b,o,e,?_⟩
  rcases hu' with ⟨hm,rfl⟩|⟨hm,rfl⟩|⟨hm,rfl⟩
  · rw [show o+j=o+j / 3*3 by omega];exact h1
  · rw [show o+j=o+j / 3*3+1 by omega];exact h2
  · rw [show o+j=o+j / 3*3+2 by omega];exact h3⟩
structure Qbw where
 ins:Int
 outs:Int
 costs:List Int
def Qnz (w:World)(b o:Nat)(t:Qbw):Prop:=w.cell? ⟨b,o,none⟩=some (.int .i64 t.ins)∧w.cell? ⟨b,o+1,none⟩=some (.int .i64 t.outs)∧∃ (A:Option Addr) (n c:Nat),w.cell? ⟨b,o+2,none⟩=some (.slice A n c)∧RdI w A n t.costs∧n≤c∧c≤9223372036854775807
theorem Qnz.below {w w':World}{b o:Nat}{t:Qbw}(h:Qnz w b o t)(hb:Below w.heap.size w w'):Qnz w' b o t:=by
 obtain ⟨h1,h2,A,n,c,h3,h4,h5⟩:=h;exact ⟨Zc hb (Zn _) h1,Zc hb (Zn _) h2,A,n,c,Zc hb (Zn _) h3,h4.below hb,h5⟩
def RdY (w:World)(A:Option Addr)(n:Nat)(l:List Qbw):Prop:=l.length=n∧∀ i t,l[i]?=some t→∃ b o,A=some ⟨b,o,none⟩∧Qnz w b (o+i*3) t
theorem RdY.at_ {w:World}{A:Option Addr}{n i:Nat}{l:List Qbw}(h:RdY w A n l)(hi:i<n):∃ b o t,A=some ⟨b,o,none⟩∧l[i]?=some t∧Qnz w b (o+i*3) t:=by
 have hl:i<l.length:=by rw [h.1];exact hi
 obtain ⟨b,o,e,hc⟩:=h.2 i _ (Zg hl);exact ⟨b,o,_,e,Zg hl,hc⟩
theorem RdY.below {w w':World}{A:Option Addr}{n:Nat}{l:List Qbw}(h:RdY w A n l)(hb:Below w.heap.size w w'):RdY w' A n l :=
 ⟨h.1,fun i t ht=>by obtain ⟨b,o,e,hc⟩:=h.2 i t ht;exact ⟨b,o,e,hc.below hb⟩⟩
structure Qaj where
 vs:List Tri
 ar:List Tri
 ts:List Qbw
def Qbm (w:World)(A B C:Option Addr)(n m k:Nat)(N:Qaj):Prop:=Rd3 w A n N.vs∧Rd3 w B m N.ar∧RdY w C k N.ts
theorem Qbm.below {w w':World}{A B C:Option Addr}{n m k:Nat}{N:Qaj}(h:Qbm w A B C n m k N)(hb:Below w.heap.size w w'):Qbm w' A B C n m k N:=⟨h.1.below hb,h.2.1.below hb,h.2.2.below hb⟩
def wOk (a:Int):Bool:=(decide (0≤a) && decide (a≤2147483648)) || decide (a=1152921504606846976)
def Qgb (x:Int):Bool:=decide (-1048576≤x) && decide (x≤1048576)
structure Qig (t:Qbw):Prop where
 i0:0≤t.ins
 i16:t.ins≤16
 o0:0≤t.outs
 o16:t.outs≤16
 len:(t.costs.length:Int)=t.ins*t.outs
 ok:∀ c∈t.costs,wOk c=true
def Qvu (l:List Tri)(v:Nat):Nat:=l.countP (fun a=>a.2.1 == (v:Int))
def Qur (l:List Tri)(v:Nat):Nat:=l.countP (fun a=>a.1 == (v:Int))
structure Qwa (k:Nat) (v:Tri):Prop where
 x:Qgb v.1=true
 y:Qgb v.2.1=true
 t0:0≤v.2.2
 t1:v.2.2<k
structure ArcOk (n:Nat) (a:Tri):Prop where
 f0:0≤a.1
 f1:a.1<n
 g0:0≤a.2.1
 g1:a.2.1<n
 w:wOk a.2.2=true
structure Qas (N:Qaj):Prop where
 lv:N.vs.length≤4096
 la:N.ar.length≤16384
 lt:N.ts.length≤256
 tabs:∀ t∈N.ts,Qig t
 verts:∀ v∈N.vs,Qwa N.ts.length v
 arcs:∀ a∈N.ar,ArcOk N.vs.length a
 meet:∀ (i:Nat) v t,N.vs[i]?=some v→N.ts[v.2.2.toNat]?=some t→(Qvu N.ar i:Int)=t.ins∧(Qur N.ar i:Int)=t.outs
attribute [local go_sem ↓] Go.wp_at_zero Go.wp_at_succ
def Wg (B:Nat)(w:World)(A:Option Addr)(k c:Nat):Prop:=∃ xs,Own w B 111 2 A k c xs∧(∀ u∈xs,u.oneCell'=true)∧k≤1000000
theorem Wg.none (B:Nat)(w:World):Wg B w none 0 0:=⟨[],Own.nil _ _ _ _,by simp,by omega⟩
theorem Wg.setCell {B:Nat}{w:World}{A:Option Addr}{k c:Nat}(h:Wg B w A k c){a:Addr}(ha:a.block<B)(u:Value):Wg B (w.setCell a u) A k c:=by
 obtain ⟨xs,h1,h2⟩:=h;exact ⟨xs,ownsRow_setCell_below h1 ha u,h2⟩
theorem Wg.mono {B B':Nat}{w:World}{A:Option Addr}{k c:Nat}(h:Wg B w A k c)(hB:B'≤B):Wg B' w A k c:=by
 obtain ⟨xs,h1,h2⟩:=h;exact ⟨xs,h1.mono hB,h2⟩
theorem Wg.alloc {B:Nat}{w:World}{A:Option Addr}{k c:Nat}(h:Wg B w A k c)(o:Obj):Wg B (w.alloc o) A k c:=by
 obtain ⟨xs,h1,h2⟩:=h;exact ⟨xs,h1.alloc o,h2⟩
def Qcs (G:Prop)(B:Nat)(e:Ending)(w:World):Prop:=∃ (A:Option Addr) (k c:Nat) (x:Int),e=.returned (.agg #[.slice A k c,.int .i64 x])∧Wg B w A k c∧((x=0∧G)∨x≠0)
theorem Qcs.no {G:Prop}{B:Nat}{w:World}{A:Option Addr}{k c:Nat}{x:Int}(hg:Wg B w A k c)(hx:x≠0):Qcs G B (.returned (.agg #[.slice A k c,.int .i64 x])) w:=⟨A,k,c,x,rfl,hg,.inr hx⟩
def Qbe (G:Prop)(e:Ending):Prop:=∃ (A:Option Addr) (k c:Nat) (x:Int),e=.returned (.agg #[.slice A k c,.int .i64 x])∧((x=0∧G)∨x≠0)
theorem Qbe.no {G:Prop}{A:Option Addr}{k c:Nat}{x:Int}(hx:x≠0):Qbe G (.returned (.agg #[.slice A k c,.int .i64 x])):=⟨A,k,c,x,rfl,.inr hx⟩
def RetAgg (B:Nat)(x:Int)(e:Ending)(w:World):Prop:=∃ (A:Option Addr) (k c:Nat),e=.returned (.agg #[.slice A k c,.int .i64 x])∧Wg B w A k c
theorem Qaq (s:ByteArray)(k c:Int)(w:World):Calls prog 14 #[.string s,.int .i64 k,.int .i64 c] w fun e w'=>RetAgg w.heap.size c e w'∧Below w.heap.size w w':=by
 go_enter func14,ntmps14
 go_wp2
 refine bodyPost_ret (v:=.agg #[.slice (some ⟨w.heap.size+1,0,none⟩) 1 1,.int .i64 c]) (by simp [results,results14,go_sem]) rfl ?_;refine ⟨⟨_,_,_,rfl,Wg.mono (B:=w.heap.size+1) ?_ (by omega)⟩,Qae⟩;have hz:∀ o,(w.alloc o).heap.size=w.heap.size+1:=fun o=>by show (w.heap.push o).size=_;exact Array.size_push ..
 have hO:=Own.lit (B:=w.heap.size+1) (s:=2) (e:=111) (w.alloc (.cells #[.slice (some ⟨w.heap.size+1,0,none⟩) 1 1,.int .i64 c] 48)) #[.string s,.int .i64 k] 1 (by rw [hz];exact Zn _) (by omega) rfl;rw [hz] at hO;refine ⟨_,hO,?_,by omega⟩;simp [Value.oneCell']
theorem Qvd {a:Int} (h:¬(0≤a∧a≤2147483648)):wOk a=(a == 1152921504606846976):=by
 unfold wOk
 have:(decide (0≤a) && decide (a≤2147483648))=false:=by
  cases e:(decide (0≤a) && decide (a≤2147483648))
  · rfl
  · simp only [Bool.and_eq_true,decide_eq_true_eq] at e;exact absurd e h
 rw [this,Bool.false_or]
 by_cases h2:a=1152921504606846976
 · simp [h2]
 · rw [decide_eq_false h2];symm;simpa using h2
theorem Qcn (a:Int)(w:World):Calls prog 96 #[.int .i64 a] w fun e w'=>e=.returned (.bool (wOk a))∧w=w':=by
 by_cases h0:0≤a
 · by_cases h1:a≤2147483648
   · go_enter func96,ntmps96
     go_wp2
     go_ret
     exact ⟨Qbb (by simp [wOk,h0,h1]),rfl⟩
   · go_enter func96,ntmps96
     go_wp2
     go_ret
     exact ⟨Qbb (Qvd (by omega)).symm,rfl⟩
 · go_enter func96,ntmps96
   go_wp2
   go_ret
   exact ⟨Qbb (Qvd (by omega)).symm,rfl⟩
theorem Qbq (a:Int)(w:World):Calls prog 123 #[.int .i64 a] w fun e w'=>e=.returned (.bool (wOk a))∧w=w':=by
 by_cases hI:a=1152921504606846976
 · subst hI
   go_enter func123,ntmps123
   go_wp2
   go_ret
   exact ⟨Qbb (by decide),rfl⟩
 · have h9:(a == 1152921504606846976)=false:=by simpa using hI
   have HI:=Zh hI;clear hI
   by_cases h0:0≤a
   · go_enter func123,ntmps123
     go_wp2
     go_ret
     exact ⟨Qbb (by unfold wOk;rw [decide_eq_true h0,decide_eq_false HI.out];simp),rfl⟩
   · go_enter func123,ntmps123
     go_wp2
     go_ret
     exact ⟨Qbb (by rw [Qvd (by omega)];exact h9.symm),rfl⟩
theorem Qnt (x:Int)(w:World):Calls prog 149 #[.int .i64 x] w fun e w'=>e=.returned (.bool (Qgb x))∧w=w':=by
 by_cases h1 : -1048576≤x
 all_goals
  go_enter func149,ntmps149
  go_wp2
  go_ret
  exact ⟨Qbb (by simp [Qgb];omega),rfl⟩
theorem far_ok (x:Int)(w:World)(h:Qgb x=true):Calls prog 121 #[.int .i64 x] w fun e w'=>e=.returned (.bool false)∧w=w':=by
 unfold Qgb at h;simp only [Bool.and_eq_true,decide_eq_true_eq] at h;obtain ⟨h1,h2⟩:=h
 go_enter func121,ntmps121
 go_wp2
 go_ret
 exact ⟨Qbb (by simp;omega),rfl⟩
theorem Qod (A B C:Option Addr)(n m k c d e:Nat)(v:Int)(w:World)(h0:0≤v)(h1:v<n) :
 Calls prog 122 #[.agg #[.slice A n c,.slice B m d,.slice C k e],.int .i64 v] w fun e w'=>e=.returned (.bool true)∧Below w.heap.size w w':=by
 go_enter func122,ntmps122
 go_wp2
 go_ret
 exact ⟨rfl,Qae⟩
theorem Qrm (i o:Int)(w:World)(i0:0≤i)(i16:i≤16)(o0:0≤o)(o16:o≤16):Calls prog 106 #[.int .i64 i,.int .i64 o] w fun e w'=>e=.returned .nilIface∧w=w':=by
 go_enter func106,ntmps106
 go_wp2
 go_ret
 exact ⟨rfl,rfl⟩
theorem Qnp {a b:Int}(a0:0≤a)(a16:a≤16)(b0:0≤b)(b16:b≤16):0≤a*b∧a*b≤256 :=
 ⟨Int.mul_nonneg a0 b0,by
  have h1:a*b≤16*b:=Int.mul_le_mul_of_nonneg_right a16 b0;omega⟩
set_option maxHeartbeats 1000000 in
theorem Qie (A:Option Addr)(n c:Nat)(t:Qbw)(w:World)(h:RdI w A n t.costs)(ht:Qig t) :
 Calls prog 120 #[.agg #[.int .i64 t.ins,.int .i64 t.outs,.slice A n c]] w fun e w'=>e=.returned .nilIface∧Below w.heap.size w w':=by
 obtain ⟨i,o,cs⟩:=t;have i0:0≤i:=ht.i0;have i16:i≤16:=ht.i16;have o0:0≤o:=ht.o0;have o16:o≤16:=ht.o16;have hm:=Qnp i0 i16 o0 o16;have hl:(cs.length:Int)=i*o:=ht.len;have h:RdI w A n cs:=h;rw [h.1] at hl;have hok:=ht.ok;simp only at hok;have HOK:=Zh hok;have HL:=Zh hl;have j1:IntKind.i64.wrap (i*o)=i*o:=IntWalk.i64_in _ (by omega);have j2:((n:Int) != i*o)=false:=by simpa using hl
 have j3:((n:Int) == i*o)=true:=by simpa using hl
 have HSD:=Zh (show ∀ V,Calls prog 106 #[.int .i64 i,.int .i64 o] V fun e w'=>e=.returned .nilIface∧V=w' from fun V=>Qrm i o V i0 i16 o0 o16)
 have hn:n≤256:=by omega
 clear hok hl ht
 go_enter func120,ntmps120
 go_wp2_with fail
 (refine Qac ?_;intro w1 hw1)
 have hb1:Below w.heap.size w w1:=by rw [hw1];exact Qae
 have hB1:Blk w1 w.heap.size 143 #[.int .i64 i,.int .i64 o,.slice A n c]:=by rw [hw1];exact Blk.new _ _ _
 clear hw1;with_reducible refine (HSD.out _).mono ?_
 rintro e w' ⟨rfl,rfl⟩;have c0:=hB1.cell 0;have c1:=hB1.cell 1;have c2:=hB1.cell 2;simp only [List.getElem?_toArray,List.getElem?_cons_zero,List.getElem?_cons_succ] at c0 c1 c2;have h1:=h.below hb1
 go_wp2_with fail
 go_loop [27] (fun q=>∃ k:Nat,k≤n∧q=.int .i64 k) (fun q=>n-(intOf q).toNat)
 case atStart=>exact ⟨0,Nat.zero_le _,rfl⟩
 case round =>
  obtain ⟨k,hk,rfl⟩:=hrel
  by_cases hlt:k<n
  · obtain ⟨b,oo,x,rfl,hx,hc⟩:=h1.at_ hlt
    have HW:=Zh (show ∀ V,Calls prog 123 #[.int .i64 x] V fun e w'=>e=.returned (.bool true)∧V=w' from fun V=>by
     have:=Qbq x V;rw [HOK.out x (Zm hx)] at this;exact this)
    have i1:(0:Int)≤(k:Int):=by omega
    have i2:(k:Int)<(n:Int):=by omega
    clear hx
    go_wp2_with fail
    with_reducible refine (HW.out _).mono ?_
    rintro e w' ⟨rfl,rfl⟩
    go_wp2_with fail
    go_round
    case rel=>exact ⟨k+1,by omega,by go_num⟩
    case measure=>simp [intOf];omega
  · go_wp2_with fail
    go_ret
    exact ⟨rfl,hb1⟩
theorem Blk.three {w:World}{g:Nat}{t:TypeId}{a b c:Value} (h:Blk w g t #[a,b,c]):w.cell? ⟨g,0,none⟩=some a∧w.cell? ⟨g,1,none⟩=some b∧w.cell? ⟨g,2,none⟩=some c :=
 ⟨Zq h,Zq h,Zq h⟩
def Qps (f:Tri→Int)(l:List Tri)(n:Nat):List Int:=(List.range n).map (fun v:Nat=>((l.countP (fun a=>f a == (v:Int)):Nat):Int))
theorem Qip (f:Tri→Int)(l:List Tri)(n:Nat):(Qps f l n).length=n:=by simp [Qps]
theorem Qcj {f:Tri→Int}{l:List Tri}{n v:Nat}(h:v<n):(Qps f l n)[v]?=some ((l.countP (fun a=>f a == (v:Int)):Nat):Int):=by
 unfold Qps;rw [List.getElem?_map,List.getElem?_range h]
 rfl
theorem Qhg (f:Tri→Int)(n:Nat):Qcf (Qps f [] n)=Qba (.int .i64 0) n:=by
 rw [Qdo]
 congr 1
 apply List.ext_getElem?
 intro i
 rcases Nat.lt_or_ge i n with h|h
 · rw [Qcj h];simp [h]
 · rw [List.getElem?_eq_none (by rw [Qip];exact h),List.getElem?_eq_none (by simpa using h)]
theorem Qhd {f:Tri→Int}{l:List Tri}{n v k:Nat}{a:Tri} (ha:l[k]?=some a) (hv:f a=(v:Int)) (h:v<n) :
 (Qps f (l.take k) n).set v ((((l.take k).countP (fun a=>f a == (v:Int)):Nat):Int)+1)=Qps f (l.take (k+1)) n:=by
 apply List.ext_getElem?
 intro i;rw [List.take_succ_eq_append_getElem (Zs ha).1,(Zs ha).2]
 rcases Nat.lt_or_ge i n with hi|hi
 · rw [Qcj hi,List.countP_append]
   by_cases e:v=i
   · subst e
     rw [List.getElem?_set_self (by rw [Qip];exact h)];simp [hv]
   · rw [List.getElem?_set_ne e,Qcj hi]
     have:(f a == (i:Int))=false:=by rw [hv];simp;omega
     simp [this]
 · rw [List.getElem?_eq_none (by rw [List.length_set,Qip];exact hi),List.getElem?_eq_none (by rw [Qip];exact hi)]
theorem Qjm (f:Tri→Int)(l:List Tri)(k:Nat)(v:Int):(l.take k).countP (fun a=>f a == v)≤k:=Nat.le_trans List.countP_le_length (List.length_take_le _ _)
set_option maxHeartbeats 4000000 in
set_option maxRecDepth 100000 in
theorem meet_ok (A B C:Option Addr)(n m k c d e:Nat)(N:Qaj)(w:World)(h:Qbm w A B C n m k N)(hN:Qas N) :
 Calls prog 124 #[.agg #[.slice A n c,.slice B m d,.slice C k e]] w fun e w'=>e=.returned .nilIface∧Below w.heap.size w w':=by
 obtain ⟨hv,ha,ht⟩:=h;have HLV:=Zh hv.1;have HLA:=Zh ha.1;have HLT:=Zh ht.1;have hn:n≤4096:=by rw [←hv.1];exact hN.lv
 have hm:m≤16384:=by rw [←ha.1];exact hN.la
 have hmk:=Qdn n (by omega);have HN:=Zh hN;clear hN
 go_enter func124,ntmps124
 go_wp2_with fail
 (refine Qah ?_;intro w1 hw1)
 have hb1:Below w.heap.size w w1:=by rw [hw1];exact Qae
 have hN1:Blk w1 w.heap.size 120 #[.slice A n c,.slice B m d,.slice C k e]:=by rw [hw1];exact Qau
 have hI1:Blk w1 (w.heap.size+1) 3 (Qba (.int .i64 0) n):=by rw [hw1];exact Qau
 have hO1:Blk w1 (w.heap.size+1+1) 3 (Qba (.int .i64 0) n):=by rw [hw1];exact Qau
 clear hw1 hmk
 go_loopw [21] (fun q W=>∃ i:Nat,i≤m∧q=.int .i64 i∧Below w.heap.size w W∧Blk W w.heap.size 120 #[.slice A n c,.slice B m d,.slice C k e]∧Blk W (w.heap.size+1) 3 (Qcf (Qps (·.2.1) (N.ar.take i) n))∧Blk W (w.heap.size+1+1) 3 (Qcf (Qps (·.1) (N.ar.take i) n))) (fun q _=>m-(intOf q).toNat)
 case atStart=>exact ⟨0,Nat.zero_le _,rfl,hb1,hN1,by rw [List.take_zero,Qhg];exact hI1,by rw [List.take_zero,Qhg];exact hO1⟩
 case round =>
  clear hb1 hN1 hI1 hO1;obtain ⟨i,hi,rfl,hbl,hNN,hI,hO⟩:=hrel
  by_cases hlt:i<m
  · obtain ⟨b,o,x,y,z,rfl,hx,cx,cy,cz⟩:=(ha.below hbl).at_ hlt
    have hok:=HN.out.arcs _ (Zm hx);have f0:=hok.f0;have f1:=hok.f1;have g0:=hok.g0;have g1:=hok.g1;simp only at f0 f1 g0 g1;rw [HLV.out] at f1 g1;obtain ⟨u,rfl⟩:∃ u:Nat,x=u:=⟨x.toNat,by omega⟩;obtain ⟨v,rfl⟩:∃ v:Nat,y=v:=⟨y.toNat,by omega⟩;have hu:u<n:=by omega
    have hvn:v<n:=by omega
    have hx1:=Qhd (f:=(·.2.1)) (n:=n) (v:=v) hx rfl hvn;have hx2:=Qhd (f:=(·.1)) (n:=n) (v:=u) hx rfl hu;have c1:=hI.cellI (Qcj (f:=(·.2.1)) (l:=N.ar.take i) hvn);have c2:=hO.cellI (Qcj (f:=(·.1)) (l:=N.ar.take i) hu);have d1:=Qjm (·.2.1) N.ar i v;have d2:=Qjm (·.1) N.ar i u;have HX1:=Zh hx1;have HX2:=Zh hx2;clear hx1 hx2;generalize (N.ar.take i).countP (fun a=>a.2.1 == (v:Int))=p at *;generalize (N.ar.take i).countP (fun a=>a.1 == (u:Int))=q at *;have q1:=hI.frozen v;have q2:=hO.frozen u;have z1:=hI.lt;have z2:=hO.lt;have i1:(0:Int)≤(i:Int):=by omega
    have i2:(i:Int)<(m:Int):=by omega
    have hz:=hbl.size;obtain ⟨W2,hW2⟩:∃ W2,W2=((wr.setCell ⟨w.heap.size+1,v,none⟩ (.int .i64 ((p:Int)+1))).setCell ⟨w.heap.size+1+1,u,none⟩ (.int .i64 ((q:Int)+1))).alloc (.cells #[.int .i64 u,.int .i64 v,.int .i64 z] 146):=⟨_,rfl⟩;have HW2:=Zh hW2;have hb2:Below w.heap.size w W2:=by rw [hW2];exact Bel.alloc ((hbl.setCell (by simp only;omega) _).setCell (by simp only;omega) _)
    have hN2:Blk W2 w.heap.size 120 #[.slice A n c,.slice (some ⟨b,o,none⟩) m d,.slice C k e]:=by rw [hW2];exact Qck
    have hI2:Blk W2 (w.heap.size+1) 3 (Qcf (Qps (·.2.1) (N.ar.take (i+1)) n)):=by
     rw [hW2];exact ((hI.setI HX1.out).far_ (by omega) _).alloc _
    have hO2:Blk W2 (w.heap.size+1+1) 3 (Qcf (Qps (·.1) (N.ar.take (i+1)) n)):=by
     rw [hW2];exact (Blk.setI (hO.far_ (by omega) _) HX2.out).alloc _
    have HI2:=Zh hI2;have HO2:=Zh hO2;have HN2:=Zh hN2;clear hW2 hx hok hI hO hNN hI2 hO2 hN2
    go_wp2_with fail
    rw [←HW2.out]
    go_roundw
    case rel=>exact ⟨i+1,by omega,by go_num,hb2,HN2.out,HI2.out,HO2.out⟩
    case measure=>simp [intOf];omega
  · obtain rfl:i=m:=by omega
    rw [List.take_of_length_le (by rw [HLA.out];exact Zn _)] at hI hO;obtain ⟨w2,hw2⟩:∃ w2,w2=wr:=⟨_,rfl⟩;subst hw2;obtain ⟨n0,n1,n2⟩:=hNN.three
    go_wp2_with fail
    clear n0 n1 n2;have hv2:=hv.below hbl;have ht2:=ht.below hbl
    go_loopw [43] (fun q W=>∃ j:Nat,j≤n∧q=.int .i64 j∧Below w2.heap.size w2 W) (fun q _=>n-(intOf q).toNat)
    case atStart=>exact ⟨0,Nat.zero_le _,rfl,Zr _ _⟩
    case round =>
     obtain ⟨j,hj,rfl,hb2⟩:=hrel
     by_cases hlt2:j<n
     · obtain ⟨b,o,x,y,z,rfl,hx,cx,cy,cz⟩:=(hv2.below hb2).at_ hlt2
       have hok:=HN.out.verts _ (Zm hx);have t0:=hok.t0;have t1:=hok.t1;simp only at t0 t1;rw [HLT.out] at t1;obtain ⟨u,rfl⟩:∃ u:Nat,z=u:=⟨z.toNat,by omega⟩;have hu:u<k:=by omega
       obtain ⟨b',o',t,rfl,htt,k0,k1,A',n',c',k2,_,_,_⟩:=(ht2.below hb2).at_ hu;have hm1:=HN.out.meet j _ t hx (by simpa using htt);have hT:=HN.out.tabs t (Zm htt);have m1:(Qvu N.ar j:Int)=t.ins:=hm1.1;have m2:(Qur N.ar j:Int)=t.outs:=hm1.2;have b1:=hT.i16;have b2:=hT.o16;have b3:=hT.i0;have b4:=hT.o0;have hIr:=hI.below hb2 hI.lt;have hOr:=hO.below hb2 hO.lt;have hNr:=hNN.below hb2 hNN.lt;obtain ⟨_,_,n2⟩:=hNr.three;have c1:=hIr.cellI (Qcj (f:=(·.2.1)) (l:=N.ar) hlt2);have c2:=hOr.cellI (Qcj (f:=(·.1)) (l:=N.ar) hlt2);have HC:=Zh (show ∀ V,Below wr.heap.size wr V→V.cell? ⟨w.heap.size+1,j,none⟩=some (.int .i64 ((N.ar.countP (fun a=>a.2.1 == (j:Int)):Nat):Int))∧V.cell? ⟨w.heap.size+1+1,j,none⟩=some (.int .i64 ((N.ar.countP (fun a=>a.1 == (j:Int)):Nat):Int)) from fun V hV=>⟨Zc hV (Zn _) c1,Zc hV (Zn _) c2⟩)
       unfold Qvu at m1;unfold Qur at m2;generalize N.ar.countP (fun a=>a.2.1 == (j:Int))=p at *;generalize N.ar.countP (fun a=>a.1 == (j:Int))=q at *;obtain ⟨ti,to_,tc⟩:=t;simp only at m1 m2 b1 b2 b3 b4 k0 k1;subst m1;subst m2;have z0:=hNr.lt;have z1:=hIr.lt;have z2:=hOr.lt;have i1:(0:Int)≤(j:Int):=by omega
       have i2:(j:Int)<(n:Int):=by omega
       have i3:(0:Int)≤(u:Int):=by omega
       have i4:(u:Int)<(k:Int):=by omega
       have zb:b'<wr.heap.size:=Qag k0
       clear hx hok htt hm1 hT hNr
       go_wp2_with fail
       (refine Qah ?_;intro w3 hw3)
       have hb3:Below wr.heap.size wr w3:=by rw [hw3];exact Qae
       have hT3:Blk w3 (wr.heap.size+1) 143 #[.int .i64 p,.int .i64 q,.slice A' n' c']:=by rw [hw3];exact Qau
       obtain ⟨c1',c2'⟩:=HC.out w3 hb3;obtain ⟨t0',t1',t2'⟩:=hT3.three;clear hw3 c1 c2 cx cy cz k0 k1 k2 n2;have d1:(((p:Nat):Int) != ((p:Nat):Int))=false:=by simp
       have d2:(((q:Nat):Int) != ((q:Nat):Int))=false:=by simp
       go_wp2_with fail
       go_quiet (fail)
       go_wp2_with fail
       go_roundw
       case rel=>exact ⟨j+1,by omega,by go_num,Qap (Zb hb2 hb3) _⟩
       case measure=>simp [intOf];omega
     · go_wp2_with fail
       go_ret
       exact ⟨rfl,Zb hbl hb2⟩
set_option maxHeartbeats 4000000 in
set_option maxRecDepth 100000 in
theorem Qor (A B C:Option Addr)(n m k c d e:Nat)(N:Qaj)(w:World)(h:Qbm w A B C n m k N)(hN:Qas N) :
 Calls prog 86 #[.agg #[.slice A n c,.slice B m d,.slice C k e]] w fun e w'=>e=.returned .nilIface∧Below w.heap.size w w':=by
 have HH:=Zh h;have HLV:=Zh h.1.1;have HLA:=Zh h.2.1.1;have HLT:=Zh h.2.2.1;have hn:n≤4096:=by rw [←h.1.1];exact hN.lv
 have hm:m≤16384:=by rw [←h.2.1.1];exact hN.la
 have hk:k≤256:=by rw [←h.2.2.1];exact hN.lt
 have j0:¬(n:Int) > 4096:=by omega
 have j1:¬(m:Int) > 16384:=by omega
 have j2:¬(k:Int) > 256:=by omega
 have HN:=Zh hN;clear hN h
 go_enter func86,ntmps86
 go_wp2_with fail
 (refine Qah ?_;intro w1 hw1)
 have hb1:Below w.heap.size w w1:=by rw [hw1];exact Qae
 have hN1:Blk w1 w.heap.size 120 #[.slice A n c,.slice B m d,.slice C k e]:=by rw [hw1];exact Blk.new _ _ _
 have H1:=Zh (HH.out.below hb1);clear hw1 j0 j1 j2
 go_loopw [34] (fun q W=>∃ i:Nat,i≤k∧q=.int .i64 i∧Below w1.heap.size w1 W) (fun q _=>k-(intOf q).toNat)
 case atStart=>exact ⟨0,Nat.zero_le _,rfl,Zr _ _⟩
 case round =>
  obtain ⟨i,hi,rfl,hbl⟩:=hrel
  by_cases hlt:i<k
  · obtain ⟨b,o,t,rfl,ht,k0,k1,A',n',c',k2,hr,_,_⟩:=(H1.out.2.2.below hbl).at_ hlt
    have i1:(0:Int)≤(i:Int):=by omega
    have i2:(i:Int)<(k:Int):=by omega
    have hT:=HN.out.tabs t (Zm ht);have HTC:=Zh (show ∀ V,Below wr.heap.size wr V→Calls prog 120 #[.agg #[.int .i64 t.ins,.int .i64 t.outs,.slice A' n' c']] V fun e w'=>e=.returned .nilIface∧Below V.heap.size V w' from fun V hV=>Qie A' n' c' t V (hr.below hV) hT)
    clear ht hT
    go_wp2_with fail
    (refine Qac ?_;intro w2 hw2)
    have hb2:Below wr.heap.size wr w2:=by rw [hw2];exact Qae
    clear hw2;with_reducible refine (HTC.out w2 hb2).mono ?_
    rintro e w3 ⟨rfl,hb3⟩
    go_wp2_with fail
    go_roundw
    case rel=>exact ⟨i+1,by omega,by go_num,Zb hbl (Zb hb2 hb3)⟩
    case measure=>simp [intOf];omega
  · obtain ⟨w2,hw2⟩:∃ w2,w2=wr:=⟨_,rfl⟩
    subst hw2;obtain ⟨n0,n1,n2⟩:=(hN1.below hbl hN1.lt).three
    go_wp2_with fail
    clear n0 n1 n2
    go_loopw [50] (fun q W=>∃ j:Nat,j≤n∧q=.int .i64 j∧Below w1.heap.size w1 W) (fun q _=>n-(intOf q).toNat)
    case atStart=>exact ⟨0,Nat.zero_le _,rfl,hbl⟩
    case round =>
     clear hbl;obtain ⟨j,hj,rfl,hbl⟩:=hrel;have hNr:=hN1.below hbl hN1.lt;obtain ⟨n0,n1,n2⟩:=hNr.three;have zz:=hNr.lt
     by_cases hlt2:j<n
     · obtain ⟨b,o,x,y,z,rfl,hx,cx,cy,cz⟩:=(H1.out.1.below hbl).at_ hlt2
       have hok:=HN.out.verts _ (Zm hx);have t0:=hok.t0;have t1:=hok.t1;simp only at t0 t1;rw [HLT.out] at t1;have HF1:=Zh (show ∀ V,Calls prog 121 #[.int .i64 x] V fun e w'=>e=.returned (.bool false)∧V=w' from fun V=>far_ok x V hok.x)
       have HF2:=Zh (show ∀ V,Calls prog 121 #[.int .i64 y] V fun e w'=>e=.returned (.bool false)∧V=w' from fun V=>far_ok y V hok.y)
       have i1:(0:Int)≤(j:Int):=by omega
       have i2:(j:Int)<(n:Int):=by omega
       have t2:¬z<0:=by omega
       have t3:¬z ≥ (k:Int):=by omega
       clear hx hok hNr
       go_wp2_with fail
       with_reducible refine (HF1.out _).mono ?_
       rintro e w' ⟨rfl,rfl⟩
       go_wp2_with fail
       with_reducible refine (HF2.out _).mono ?_
       rintro e w' ⟨rfl,rfl⟩
       go_wp2_with fail
       go_roundw
       case rel=>exact ⟨j+1,by omega,by go_num,Bel.alloc hbl⟩
       case measure=>simp [intOf];omega
     · obtain ⟨w3,hw3⟩:∃ w3,w3=wr:=⟨_,rfl⟩
       subst hw3;clear zz hNr
       go_wp2_with fail
       clear n0 n1 n2
       go_loopw [86] (fun q W=>∃ j:Nat,j≤m∧q=.int .i64 j∧Below w1.heap.size w1 W) (fun q _=>m-(intOf q).toNat)
       case atStart=>exact ⟨0,Nat.zero_le _,rfl,hbl⟩
       case round =>
        clear hbl;obtain ⟨q,hq,rfl,hbl⟩:=hrel;have hNr:=hN1.below hbl hN1.lt;obtain ⟨n0,n1,n2⟩:=hNr.three;have zz:=hNr.lt
        by_cases hlt3:q<m
        · obtain ⟨b,o,x,y,z,rfl,hx,cx,cy,cz⟩:=(H1.out.2.1.below hbl).at_ hlt3
          have hok:=HN.out.arcs _ (Zm hx);have HV1:=Zh (show ∀ V,Calls prog 122 #[.agg #[.slice A n c,.slice (some ⟨b,o,none⟩) m d,.slice C k e],.int .i64 x] V fun e w'=>e=.returned (.bool true)∧Below V.heap.size V w' from fun V=>Qod A _ C n m k c d e x V hok.f0 (by have:=hok.f1;rw [HLV.out] at this;exact this))
          have HV2:=Zh (show ∀ V,Calls prog 122 #[.agg #[.slice A n c,.slice (some ⟨b,o,none⟩) m d,.slice C k e],.int .i64 y] V fun e w'=>e=.returned (.bool true)∧Below V.heap.size V w' from fun V=>Qod A _ C n m k c d e y V hok.g0 (by have:=hok.g1;rw [HLV.out] at this;exact this))
          have HW:=Zh (show ∀ V,Calls prog 123 #[.int .i64 z] V fun e w'=>e=.returned (.bool true)∧V=w' from fun V=>by
           have:=Qbq z V;rw [hok.w] at this;exact this)
          have i1:(0:Int)≤(q:Int):=by omega
          have i2:(q:Int)<(m:Int):=by omega
          clear hx hok
          go_wp2_with fail
          (refine Qac ?_;intro w4 hw4)
          have hb4:Below wr.heap.size wr w4:=by rw [hw4];exact Qae
          have hA4:Blk w4 wr.heap.size 146 #[.int .i64 x,.int .i64 y,.int .i64 z]:=by rw [hw4];exact Qau
          clear hw4;with_reducible refine (HV1.out w4).mono ?_
          rintro e w5 ⟨rfl,hb5⟩;have hb45:Below wr.heap.size wr w5:=Zb hb4 hb5;have hA5:=hA4.below hb5 hA4.lt;have hN5:=hNr.below hb45 hNr.lt;clear n0 n1 n2;obtain ⟨n0,n1,n2⟩:=hN5.three;obtain ⟨a0,a1,a2⟩:=hA5.three;clear hA4 hb4 hb5
          go_wp2_with fail
          with_reducible refine (HV2.out w5).mono ?_
          rintro e w6 ⟨rfl,hb6⟩;have hb46:Below wr.heap.size wr w6:=Zb hb45 hb6;obtain ⟨_,_,a2'⟩:=(hA5.below hb6 hA5.lt).three;clear a0 a1 a2 n0 n1 n2 hb6 hb45
          go_wp2_with fail
          with_reducible refine (HW.out _).mono ?_
          rintro e w' ⟨rfl,rfl⟩
          go_wp2_with fail
          go_roundw
          case rel=>exact ⟨q+1,by omega,by go_num,Zb hbl hb46⟩
          case measure=>simp [intOf];omega
        · have HM:=Zh (meet_ok A B C n m k c d e N wr (H1.out.below hbl) HN.out)
          clear zz hNr
          go_wp2_with fail
          with_reducible refine HM.out.mono ?_
          rintro e w4 ⟨rfl,hb4⟩
          go_wp2_with fail
          go_ret
          exact ⟨rfl,Zb hb1 (Zb hbl hb4)⟩
set_option maxHeartbeats 1000000 in
theorem Qho (A:Option Addr)(n c:Nat)(t:Qbw)(w:World)(h:RdI w A n t.costs)(hn:n≤9223372036854775807) :
 Calls prog 147 #[.agg #[.int .i64 t.ins,.int .i64 t.outs,.slice A n c]] w fun e w'=>Qcs (Qig t) w.heap.size e w'∧Below w.heap.size w w':=by
 obtain ⟨i,o,cs⟩:=t;have h:RdI w A n cs:=h;simp only
 by_cases i0:i<0
 · go_enter func147,ntmps147
   go_wp2_with fail
   (refine Qac ?_;intro w5 hw5)
   have hB5:Blk w5 (w.heap.size+1) 48 #[.slice none 0 0,.int .i64 0]:=by rw [hw5];exact Qau
   have hb5:Below w.heap.size w w5:=by rw [hw5];exact Qae
   clear hw5;with_reducible refine (Qaq _ _ _ _).mono ?_
   rintro e w2 ⟨⟨A4,n4,m4,rfl,hg4⟩,hb⟩;have hB2:=Blk.below hB5 hb hB5.lt;obtain ⟨c0,c1,f0,f1⟩:=hB2.two;have hb2:Below w.heap.size w w2:=Zb hb5 hb
   go_wp2_with fail
   refine bodyPost_ret (v:=.agg #[.slice A4 n4 m4,.int .i64 1]) (by simp [results,results147,go_sem,c0,c1]) rfl ?_
   first | exact ⟨Qbe.no (by decide),Qae⟩ | exact ⟨Qcs.no (Wg.mono (B:=w5.heap.size) (Wg.setCell (Wg.setCell hg4 hB5.lt _) hB5.lt _) hb5.size) (by decide),Qae⟩
 by_cases i1:i > 16
 · go_enter func147,ntmps147
   go_wp2_with fail
   (refine Qac ?_;intro w5 hw5)
   have hB5:Blk w5 (w.heap.size+1) 48 #[.slice none 0 0,.int .i64 0]:=by rw [hw5];exact Qau
   have hb5:Below w.heap.size w w5:=by rw [hw5];exact Qae
   clear hw5;with_reducible refine (Qaq _ _ _ _).mono ?_
   rintro e w2 ⟨⟨A4,n4,m4,rfl,hg4⟩,hb⟩;have hB2:=Blk.below hB5 hb hB5.lt;obtain ⟨c0,c1,f0,f1⟩:=hB2.two;have hb2:Below w.heap.size w w2:=Zb hb5 hb
   go_wp2_with fail
   refine bodyPost_ret (v:=.agg #[.slice A4 n4 m4,.int .i64 1]) (by simp [results,results147,go_sem,c0,c1]) rfl ?_
   first | exact ⟨Qbe.no (by decide),Qae⟩ | exact ⟨Qcs.no (Wg.mono (B:=w5.heap.size) (Wg.setCell (Wg.setCell hg4 hB5.lt _) hB5.lt _) hb5.size) (by decide),Qae⟩
 by_cases o0:o<0
 · go_enter func147,ntmps147
   go_wp2_with fail
   (refine Qac ?_;intro w5 hw5)
   have hB5:Blk w5 (w.heap.size+1) 48 #[.slice none 0 0,.int .i64 0]:=by rw [hw5];exact Qau
   have hb5:Below w.heap.size w w5:=by rw [hw5];exact Qae
   clear hw5;with_reducible refine (Qaq _ _ _ _).mono ?_
   rintro e w2 ⟨⟨A4,n4,m4,rfl,hg4⟩,hb⟩;have hB2:=Blk.below hB5 hb hB5.lt;obtain ⟨c0,c1,f0,f1⟩:=hB2.two;have hb2:Below w.heap.size w w2:=Zb hb5 hb
   go_wp2_with fail
   refine bodyPost_ret (v:=.agg #[.slice A4 n4 m4,.int .i64 1]) (by simp [results,results147,go_sem,c0,c1]) rfl ?_
   first | exact ⟨Qbe.no (by decide),Qae⟩ | exact ⟨Qcs.no (Wg.mono (B:=w5.heap.size) (Wg.setCell (Wg.setCell hg4 hB5.lt _) hB5.lt _) hb5.size) (by decide),Qae⟩
 by_cases o1:o > 16
 · go_enter func147,ntmps147
   go_wp2_with fail
   (refine Qac ?_;intro w5 hw5)
   have hB5:Blk w5 (w.heap.size+1) 48 #[.slice none 0 0,.int .i64 0]:=by rw [hw5];exact Qau
   have hb5:Below w.heap.size w w5:=by rw [hw5];exact Qae
   clear hw5;with_reducible refine (Qaq _ _ _ _).mono ?_
   rintro e w2 ⟨⟨A4,n4,m4,rfl,hg4⟩,hb⟩;have hB2:=Blk.below hB5 hb hB5.lt;obtain ⟨c0,c1,f0,f1⟩:=hB2.two;have hb2:Below w.heap.size w w2:=Zb hb5 hb
   go_wp2_with fail
   refine bodyPost_ret (v:=.agg #[.slice A4 n4 m4,.int .i64 1]) (by simp [results,results147,go_sem,c0,c1]) rfl ?_
   first | exact ⟨Qbe.no (by decide),Qae⟩ | exact ⟨Qcs.no (Wg.mono (B:=w5.heap.size) (Wg.setCell (Wg.setCell hg4 hB5.lt _) hB5.lt _) hb5.size) (by decide),Qae⟩
 have hm:=Qnp (a:=i) (b:=o) (by omega) (by omega) (by omega) (by omega);have j1:IntKind.i64.wrap (i*o)=i*o:=IntWalk.i64_in _ (by omega)
 by_cases hl:(n:Int)=i*o
 rotate_left
 · have j2:((n:Int) != i*o)=true:=by simpa using hl
   have j3:((n:Int) == i*o)=false:=by simpa using hl
   clear hl
   go_enter func147,ntmps147
   go_wp2_with fail
   (refine Qac ?_;intro w5 hw5)
   have hB5:Blk w5 (w.heap.size+1) 48 #[.slice none 0 0,.int .i64 0]:=by rw [hw5];exact Qau
   have hb5:Below w.heap.size w w5:=by rw [hw5];exact Qae
   clear hw5;with_reducible refine (Qaq _ _ _ _).mono ?_
   rintro e w2 ⟨⟨A4,n4,m4,rfl,hg4⟩,hb⟩;have hB2:=Blk.below hB5 hb hB5.lt;obtain ⟨c0,c1,f0,f1⟩:=hB2.two;have hb2:Below w.heap.size w w2:=Zb hb5 hb
   go_wp2_with fail
   refine bodyPost_ret (v:=.agg #[.slice A4 n4 m4,.int .i64 9]) (by simp [results,results147,go_sem,c0,c1]) rfl ?_
   first | exact ⟨Qbe.no (by decide),Qae⟩ | exact ⟨Qcs.no (Wg.mono (B:=w5.heap.size) (Wg.setCell (Wg.setCell hg4 hB5.lt _) hB5.lt _) hb5.size) (by decide),Qae⟩
 have j2:((n:Int) != i*o)=false:=by simpa using hl
 have j3:((n:Int) == i*o)=true:=by simpa using hl
 have hn:n≤256:=by omega
 have HL:=Zh hl;clear hl
 go_enter func147,ntmps147
 go_wp2_with fail
 (refine Qah ?_;intro w1 hw1)
 have hb1:Below w.heap.size w w1:=by rw [hw1];exact Qae
 have hT1:Blk w1 w.heap.size 75 #[.int .i64 i,.int .i64 o,.slice A n c]:=by rw [hw1];exact Qau
 have hB1:Blk w1 (w.heap.size+1) 48 #[.slice none 0 0,.int .i64 0]:=by rw [hw1];exact Qau
 clear hw1
 go_loopw [3] (fun q W=>∃ k:Nat,k≤n∧q=.int .i64 k∧Below w.heap.size w W∧Blk W w.heap.size 75 #[.int .i64 i,.int .i64 o,.slice A n c]∧Blk W (w.heap.size+1) 48 #[.slice none 0 0,.int .i64 0]∧∀ j x,j<k→cs[j]?=some x→wOk x=true) (fun q _=>n-(intOf q).toNat)
 case atStart=>exact ⟨0,Nat.zero_le _,rfl,hb1,hT1,hB1,fun _ _ h=>absurd h (Nat.not_lt_zero _)⟩
 case round =>
  clear hb1 hT1 hB1;obtain ⟨k,hk,rfl,hbl,hT,hB,hall⟩:=hrel;have HA:=Zh hall;clear hall;obtain ⟨t0,t1,t2⟩:=hT.three;have zT:=hT.lt
  by_cases hlt:k<n
  · obtain ⟨b,oo,x,rfl,hx,hc⟩:=(h.below hbl).at_ hlt
    have i2:(0:Int)≤(k:Int):=by omega
    have i3:(k:Int)<(n:Int):=by omega
    have HX:=Zh hx;clear hx
    cases hw:wOk x
    · have HW:=Zh (show ∀ V,Calls prog 96 #[.int .i64 x] V fun e w'=>e=.returned (.bool false)∧V=w' from fun V=>by
       have:=Qcn x V;rw [hw] at this;exact this)
      go_wp2_with fail
      with_reducible refine (HW.out _).mono ?_
      rintro e w' ⟨rfl,rfl⟩
      go_wp2_with fail
      (refine Qac ?_;intro w5 hw5)
      have hB5:Blk w5 (w.heap.size+1) 48 #[.slice none 0 0,.int .i64 0]:=by rw [hw5];exact Qau
      have hb5:Below w.heap.size w w5:=by rw [hw5];exact Qae
      clear hw5;with_reducible refine (Qaq _ _ _ _).mono ?_
      rintro e w2 ⟨⟨A4,n4,m4,rfl,hg4⟩,hb⟩;have hB2:=Blk.below hB5 hb hB5.lt;obtain ⟨c0,c1,f0,f1⟩:=hB2.two;have hb2:Below w.heap.size w w2:=Zb hb5 hb
      go_wp2_with fail
      refine bodyPost_ret (v:=.agg #[.slice A4 n4 m4,.int .i64 8]) (by simp [results,results147,go_sem,c0,c1]) rfl ?_
      first | exact ⟨Qbe.no (by decide),Qae⟩ | exact ⟨Qcs.no (Wg.mono (B:=w5.heap.size) (Wg.setCell (Wg.setCell hg4 hB5.lt _) hB5.lt _) hb5.size) (by decide),Qae⟩
    · have HW:=Zh (show ∀ V,Calls prog 96 #[.int .i64 x] V fun e w'=>e=.returned (.bool true)∧V=w' from fun V=>by
       have:=Qcn x V;rw [hw] at this;exact this)
      have HW2:=Zh hw;clear hw
      go_wp2_with fail
      with_reducible refine (HW.out _).mono ?_
      rintro e w' ⟨rfl,rfl⟩
      go_wp2_with fail
      go_roundw
      case rel =>
       refine ⟨k+1,by omega,by go_num,hbl,hT,hB,fun j y hj hy=>?_⟩
       by_cases e:j=k
       · subst e
         rw [HX.out] at hy
         cases hy
         exact HW2.out
       · exact HA.out j y (by omega) hy
      case measure=>simp [intOf];omega
  · obtain rfl:k=n:=by omega
    have zB:=hB.lt;obtain ⟨c0,c1,f0,f1⟩:=hB.two
    go_wp2_with fail
    refine bodyPost_ret (v:=.agg #[.slice none 0 0,.int .i64 0]) (by simp [results,results147,go_sem,c0,c1]) rfl ?_;refine ⟨⟨_,_,_,_,rfl,Wg.none _ _,.inl ⟨rfl,⟨by simp only;omega,by simp only;omega,by simp only;omega,by simp only;omega,?_,?_⟩⟩⟩,Qae⟩
    · simp only
      rw [h.1];exact HL.out
    · intro y hy
      obtain ⟨j,hj⟩:=List.getElem?_of_mem hy;exact HA.out j y (by rw [←h.1];exact (Zs hj).1) hj
end Go.Proofs.YthoagdpakddbdaaGreatDoor
