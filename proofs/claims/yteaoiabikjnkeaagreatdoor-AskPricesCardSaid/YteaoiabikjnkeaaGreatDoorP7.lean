/- Parts of the proof: Pt, Pa, Gw, Rm, Ls, Pc. -/
import Derived.Test.YteaoiabikjnkeaaGreatDoorP1
import Derived.Test.YteaoiabikjnkeaaGreatDoorP3
import Derived.Lib.SliceRun
namespace Go.Proofs.YteaoiabikjnkeaaGreatDoor
open Go.RowKit Tryz
theorem Qml {P:List Int→Prop} (h0:P []) (hs:∀ l x,P l→P (l ++[x])) (l:List Int):P l:=by
 have h:∀ l:List Int,P l.reverse:=by
  intro l
  induction l with
  | nil=>exact h0
  | cons x l ih=>rw [List.reverse_cons];exact hs _ _ ih
 have:=h l.reverse
 rwa [List.reverse_reverse] at this
def Qau (l:List Int):Int:=l.foldl (fun n x=>max n (x+1)) 0
theorem Qhf (l:List Int)(x:Int):Qau (l ++[x])=max (Qau l) (x+1):=by simp [Qau]
theorem Qcb:∀ l:List Int,0≤Qau l:=by
 refine Qml (by simp [Qau]) (fun l x ih=>by rw [Qhf];omega)
theorem Qst {l:List Int}{x:Int}:x∈l→x<Qau l:=by
 revert x
 refine Qml (P:=fun l=>∀ {x:Int},x∈l→x<Qau l) (fun h=>by cases h) (fun l y ih=>?_) l
 · intro x h
   rw [Qhf]
   rcases List.mem_append.1 h with h|h
   · have:=ih h;omega
   · rw [List.mem_singleton.1 h];omega
theorem Qws {l:List Int}:0<Qau l→∃ x∈l,Qau l=x+1:=by
 refine Qml (P:=fun l=>0<Qau l→∃ x∈l,Qau l=x+1) (fun h=>by simp [Qau] at h) (fun l y ih=>?_) l
 · intro h
   rw [Qhf] at h ⊢
   by_cases h1:Qau l≤y+1
   · exact ⟨y,by simp,by omega⟩
   · have h0:=Qcb l
     obtain ⟨x,hx,e⟩:=ih (by omega);exact ⟨x,List.mem_append_left _ hx,by omega⟩
theorem Qcc {l:List Int}{n:Int}(h:∀ x∈l,x<n)(hn:0≤n):Qau l≤n:=by
 by_cases h0:0<Qau l
 · obtain ⟨x,hx,e⟩:=Qws h0
   have:=h x hx;omega
 · omega
structure Qft (n:Nat) (l:List Int):Prop where
 len:l.length=n
 lo:∀ x∈l,0≤x
 hi:∀ x∈l,x<n
 all:∀ c:Nat,(c:Int)<Qau l→(c:Int)∈l
def Qds (p l:List Int):Prop:=∀ (a b:Nat) (x y u v:Int),p[a]?=some x→p[b]?=some y→l[a]?=some u→l[b]?=some v→x≤y→u≤v
structure Qay (n:Nat) (ls:List (List Int)):Prop where
 l1:1≤ls.length
 l6:ls.length≤6
 lvl:∀ l∈ls,Qft n l
 nest:∀ (i:Nat) p l,ls[i]?=some p→ls[i+1]?=some l→Qds p l
noncomputable def Qes (n:Nat) (p:Option (List Int)) (l:List Int):Int:=by
 classical exact if l.length≠n then 1 else if Qft n l∧∀ q,p=some q→Qds q l then 0 else 10
attribute [local go_sem ↓] Go.wp_at_zero Go.wp_at_succ
theorem Qid (Q:Option Addr)(L cq i:Nat) (ls:List (List Int)) (l:List Int) (w:World) (h:RdT w Q L ls) (hl:ls[i]?=some l) (hL:L≤1000000) :
 Calls prog 219 #[.agg #[.slice Q L cq],.int .i64 ((i:Int)+1)] w fun e w'=>∃ A n c,e=.returned (.slice A n c)∧RdI w A n l∧n≤c∧c≤9223372036854775807∧Below w.heap.size w w':=by
 have hi:i<L:=by rw [←h.1];exact (Zs hl).1
 obtain ⟨b,o,A,n,c,l',rfl,hl',hc,hr,q1,q2⟩:=h.at_ hi;rw [hl] at hl'
 cases hl'
 have HR:=Zh hr;have i1:(0:Int)≤(i:Int):=by omega
 have i2:(i:Int)<(L:Int):=by omega
 have i3:¬((i:Int)+1<1):=by omega
 have i4:¬((i:Int)+1 > (L:Int)):=by omega
 have i5:(i:Int)+1-1=(i:Int):=by omega
 have hca:=fun ob=>Zc (show Below w.heap.size w (w.alloc ob) from Qah) (Zn _) hc
 clear h hl hr hc
 go_enter func219,ntmps219
 go_wp2
 go_ret
 exact ⟨_,_,_,rfl,HR.out,q1,q2,Qah⟩
theorem row_ok (Q:Option Addr)(L cq i:Nat) (ls:List (List Int)) (l:List Int) (w:World) (h:RdT w Q L ls) (hl:ls[i]?=some l) (hL:L≤1000000) :
 Calls prog 220 #[.agg #[.slice Q L cq],.int .i64 ((i:Int)+1)] w fun e w'=>∃ A n c,e=.returned (.slice A n c)∧RdI w A n l∧n≤c∧c≤9223372036854775807∧Below w.heap.size w w':=by
 have hi:i<L:=by rw [←h.1];exact (Zs hl).1
 obtain ⟨b,o,A,n,c,l',rfl,hl',hc,hr,q1,q2⟩:=h.at_ hi;rw [hl] at hl'
 cases hl'
 have HR:=Zh hr;have i1:(0:Int)≤(i:Int):=by omega
 have i2:(i:Int)<(L:Int):=by omega
 have i3:¬((i:Int)+1<1):=by omega
 have i4:¬((i:Int)+1 > (L:Int)):=by omega
 have i5:(i:Int)+1-1=(i:Int):=by omega
 have hca:=fun ob=>Zc (show Below w.heap.size w (w.alloc ob) from Qah) (Zn _) hc
 clear h hl hr hc
 go_enter func220,ntmps220
 go_wp2
 go_ret
 exact ⟨_,_,_,rfl,HR.out,q1,q2,Qah⟩
theorem Qgh {l:List Int}{k:Nat}{x:Int} (h:l[k]?=some x):Qau (l.take (k+1))=max (Qau (l.take k)) (x+1):=by
 rw [List.take_succ_eq_append_getElem (Zs h).1,(Zs h).2,Qhf]
set_option maxHeartbeats 1000000 in
theorem count_ok (Q:Option Addr)(L cq i:Nat) (ls:List (List Int)) (l:List Int) (w:World) (h:RdT w Q L ls) (hl:ls[i]?=some l) (hL:L≤1000000) (hb:∀ x∈l,0≤x∧x≤1000000) :
 Calls prog 209 #[.agg #[.slice Q L cq],.int .i64 ((i:Int)+1)] w fun e w'=>e=.returned (.int .i64 (Qau l))∧Below w.heap.size w w':=by
 have HN:=Zh (show ∀ V,Below w.heap.size w V→Calls prog 219 #[.agg #[.slice Q L cq],.int .i64 ((i:Int)+1)] V fun e w'=>∃ A n c,e=.returned (.slice A n c)∧RdI V A n l∧n≤c∧c≤9223372036854775807∧Below V.heap.size V w' from fun V hV=>Qid Q L cq i ls l V (h.below hV) hl hL)
 have HB:=Zh hb;clear h hl hb
 go_enter func209,ntmps209
 go_wp2_with fail
 (refine Qad ?_;intro w1 hw1)
 have hb1:Below w.heap.size w w1:=by rw [hw1];exact Qah
 clear hw1;with_reducible refine (HN.out w1 hb1).mono ?_
 rintro e w2 ⟨A,n,c,rfl,hr,q1,q2,hb2⟩;have hr2:=hr.below hb2;have HLEN:=Zh hr.1;have hbw2:=Zb hb1 hb2;clear hr
 go_wp2_with fail
 go_loop [5,12] (fun m q=>∃ k:Nat,k≤n∧q=.int .i64 k∧m=.int .i64 (Qau (l.take k))) (fun _ q=>n-(intOf q).toNat)
 case atStart=>exact ⟨0,Nat.zero_le _,rfl,rfl⟩
 case round =>
  obtain ⟨k,hk,rfl,rfl⟩:=hrel
  by_cases hlt:k<n
  · obtain ⟨b,o,x,rfl,hx,hc⟩:=hr2.at_ hlt
    have hxb:=HB.out x (Zm hx);have HNX:=Zh (Qgh hx);have i1:(0:Int)≤(k:Int):=by omega
    have i2:(k:Int)<(n:Int):=by omega
    clear hx;generalize Qau (l.take k)=m at *
    by_cases hge:x ≥ m
    · go_wp2_with fail
      go_round
      case rel=>exact ⟨k+1,by omega,by go_num,by rw [HNX.out,show max m (x+1)=x+1 by omega]⟩
      case measure=>simp [intOf];omega
    · go_wp2_with fail
      go_round
      case rel=>exact ⟨k+1,by omega,by go_num,by rw [HNX.out,show max m (x+1)=m by omega]⟩
      case measure=>simp [intOf];omega
  · obtain rfl:n=k:=by omega
    have HE:=Zh (show Qau (l.take n)=Qau l by rw [List.take_of_length_le (by rw [HLEN.out];exact Zn _)])
    go_wp2
    go_ret
    exact ⟨Qbz HE.out,hbw2⟩
/-! Rows of Qca, each of the call's own, as the cells of one block. -/
def IkG (t:TypeId)(W:World)(B g n:Nat) (ls:List (List Int)):Prop :=
 ls.length=n∧g<B∧∃ cs,Blk W g t cs∧cs.size=n∧(∀ (v:Nat) (l:List Int),ls[v]?=some l→∃ A c,cs[v]?=some (.slice A l.length c)∧Own W B 3 1 A l.length c (Qag l)) ∧
  ∀ (v v':Nat) A m c A' m' c',v≠v'→cs[v]?=some (.slice A m c)→cs[v']?=some (.slice A' m' c')→Dj A A'
theorem IkG.start {t:TypeId}{W:World}{B g n:Nat}(hg:g<B) (h:Blk W g t (Qbs (.slice none 0 0) n)):IkG t W B g n (List.replicate n []):=by
 refine ⟨by simp,hg,_,h,by simp [Qbs],fun v l hl=>?_,fun v v' A m c A' m' c' _ h1 _=>?_⟩
 · obtain ⟨hv,e⟩:=Zs hl
   simp at e;subst e;refine ⟨none,0,?_,Own.nil _ _ _ _⟩;simp at hv;simp [Qbs,hv]
 · have e:=(Array.getElem?_eq_some_iff.1 h1).2
   simp [Qbs] at e;obtain ⟨rfl,_,_⟩:=e;exact .inl rfl
theorem IkG.below {t:TypeId}{W W':World}{B g n:Nat} {ls:List (List Int)} (h:IkG t W B g n ls) (hb:Below W.heap.size W W'):IkG t W' B g n ls:=by
 obtain ⟨h1,h2,cs,h3,h4,h5,h6⟩:=h
 exact ⟨h1,h2,cs,h3.below hb h3.lt,h4,fun v l hl=>by
  obtain ⟨A,c,k1,k2⟩:=h5 v l hl;exact ⟨A,c,k1,k2.below hb⟩,h6⟩
theorem IkG.row {t:TypeId}{W:World}{B g n u:Nat} {ls:List (List Int)} (h:IkG t W B g n ls) (hu:u<n):∃ A c l,ls[u]?=some l∧W.cell? ⟨g,u,none⟩=some (.slice A l.length c)∧W.frozen? ⟨g,u,none⟩=false∧Own W B 3 1 A l.length c (Qag l):=by
 obtain ⟨h1,h2,cs,h3,h4,h5,h6⟩:=h;have hl:ls[u]?=some ls[u]:=Zg (by omega);obtain ⟨A,c,k1,k2⟩:=h5 u _ hl;exact ⟨A,c,_,hl,by rw [h3.cell];exact k1,h3.frozen u,k2⟩
theorem IkG.lt {t:TypeId}{W:World}{B g n:Nat} {ls:List (List Int)} (h:IkG t W B g n ls):g<W.heap.size:=by
 obtain ⟨_,_,cs,h3,_⟩:=h;exact h3.lt
theorem IkG.push {t:TypeId}{W w':World}{B g n u c c':Nat}{A A':Option Addr} {ls:List (List Int)} {l:List Int} {k:Int} (h:IkG t W B g n ls) (hl:ls[u]?=some l) (hc:W.cell? ⟨g,u,none⟩=some (.slice A l.length c))
 (hown:Own w' B 3 1 A' (l.length+1) c' (Qag l ++Qag [k])) (hg:W.grownBy w' (Qab A)) (hat:Qab A'=Qab A∨Qab A'=some W.heap.size) :
 IkG t (w'.setCell ⟨g,u,none⟩ (.slice A' (l.length+1) c')) B g n (ls.set u (l ++[k])):=by
 obtain ⟨h1,h2,cs,h3,h4,h5,h6⟩:=h;have hu:=(Zs hl).1;have hcs:cs[u]?=some (.slice A l.length c):=by rw [←h3.cell];exact hc
 obtain ⟨A0,c0,k1,hown0⟩:=h5 u l hl;rw [hcs] at k1
 cases k1
 have hgA:Qab A≠some g:=hown0.ne h2;have hgA':Qab A'≠some g:=hown.ne h2;refine ⟨by rw [List.length_set];exact h1,h2,_,(h3.grown hg hgA).set_ u (.slice A' (l.length+1) c'),by simpa using h4,fun v l' hl'=>?_,fun v v' X m d X' m' d' hne e1 e2=>?_⟩
 · by_cases e:u=v
   · subst e
     rw [List.getElem?_set_self hu] at hl'
     cases hl'
     refine ⟨A',c',by rw [Array.getElem?_setIfInBounds_self_of_lt (by omega),List.length_append];rfl,?_⟩;rw [List.length_append,Qbn];exact hown.far (Qaa _ _ _ _) (.inr hgA')
   · rw [List.getElem?_set_ne e] at hl'
     obtain ⟨X,d,k1,k2⟩:=h5 v l' hl';refine ⟨X,d,by rw [Array.getElem?_setIfInBounds_ne e];exact k1,(k2.far hg (h6 u v _ _ _ _ _ _ e hcs k1).far).far (Qaa _ _ _ _) (.inr (k2.ne h2))⟩
 · have old:∀ v X m d,u≠v→cs[v]?=some (.slice X m d)→Dj A' X:=fun v X m d hv e3=>by
    have hv2:=(Array.getElem?_eq_some_iff.1 e3).1;obtain ⟨X0,d0,k1,k2⟩:=h5 v _ (Zg (show v<ls.length by omega))
    rw [e3] at k1
    cases k1
    exact (h6 u v _ _ _ _ _ _ hv hcs e3).next k2 hat
   by_cases a1:u=v
   · subst a1
     rw [Array.getElem?_setIfInBounds_self_of_lt (by omega)] at e1
     cases e1
     rw [Array.getElem?_setIfInBounds_ne hne] at e2;exact old v' X' m' d' hne e2
   · rw [Array.getElem?_setIfInBounds_ne a1] at e1
     by_cases a2:u=v'
     · subst a2
       rw [Array.getElem?_setIfInBounds_self_of_lt (by omega)] at e2
       cases e2
       exact (old v X m d a1 e1).symm
     · rw [Array.getElem?_setIfInBounds_ne a2] at e2
       exact h6 v v' X m d X' m' d' hne e1 e2
theorem IkG.cellG {t:TypeId}{W w':World}{B g n u:Nat}{r:Option Nat} {ls:List (List Int)} (h:IkG t W B g n ls) (hu:u<n) (hg:W.grownBy w' r) (hr:r≠some g):∃ v,w'.cell? ⟨g,u,none⟩=some v∧w'.frozen? ⟨g,u,none⟩=false:=by
 obtain ⟨h1,h2,cs,h3,h4,h5,h6⟩:=h;have hb:=h3.grown hg hr;exact ⟨_,by rw [hb.cell];exact Array.getElem?_eq_getElem (by omega),hb.frozen u⟩
/-! Arcs of a row that are marked. -/
def Qia (P:Tri→Bool)(l:List Tri):List Int:=(l.zipIdx.filter (fun p=>P p.1)).map (fun p=>(p.2:Int))
theorem Qwg (P:Tri→Bool)(l:List Tri)(a:Tri):Qia P (l ++[a])=Qia P l ++(if P a then [(l.length:Int)] else []):=by
 unfold Qia;rw [List.zipIdx_append,List.filter_append,List.map_append]
 congr 1
 cases h:P a <;> simp [h]
theorem Qkf {P:Tri→Bool}{l:List Tri}{a:Tri}{k:Nat} (h:l[k]?=some a):Qia P (l.take (k+1))=Qia P (l.take k) ++(if P a then [(k:Int)] else []):=by
 have hlt:=(Zs h).1;rw [List.take_succ_eq_append_getElem hlt,(Zs h).2,Qwg,List.length_take,Nat.min_eq_left (by omega)]
theorem Qfn (P:Tri→Bool)(l:List Tri):(Qia P l).length≤l.length:=by
 unfold Qia;rw [List.length_map];refine Nat.le_trans (List.length_filter_le _ _) ?_;simp
theorem Qsy {P:Tri→Bool}{l:List Tri}{x:Int}:x∈Qia P l↔∃ (i:Nat) (a:Tri),x=(i:Int)∧l[i]?=some a∧P a=true:=by
 unfold Qia;simp only [List.mem_map,List.mem_filter]
 constructor
 · rintro ⟨⟨a,i⟩,⟨h1,h2⟩,rfl⟩
   exact ⟨i,a,rfl,List.mem_zipIdx_iff_getElem?.1 h1,h2⟩
 · rintro ⟨i,a,rfl,h1,h2⟩
   exact ⟨(a,i),⟨List.mem_zipIdx_iff_getElem?.2 h1,h2⟩,rfl⟩
theorem Qjz (P:Tri→Bool):∀ l:List Tri,(Qia P l).Pairwise (·<·):=by
 intro l;unfold Qia;rw [List.pairwise_map];refine List.Pairwise.filter _ ?_;rw [List.pairwise_iff_getElem];intro i j hi hj hij;simp;exact hij
def Qac (l:List Int)(v:Int):Int:=l.getD v.toNat 0
theorem Qas {l:List Int}{v:Nat}{p:Int} (h:l[v]?=some p):Qac l (v:Int)=p:=by
 unfold Qac;rw [Int.toNat_natCast,List.getD_eq_getElem?_getD,h]
 rfl
def Qcf (l:List Int)(a:Tri):Bool:=Qac l a.1 != Qac l a.2.1
def Qav (ar:List Tri)(l:List Int):List Int:=Qia (Qcf l) ar
def toC (ar:List Tri)(l:List Int)(a:Int):Int:=Qac l (ar.getD a.toNat (0,0,0)).2.1
def frC (ar:List Tri)(l:List Int)(a:Int):Int:=Qac l (ar.getD a.toNat (0,0,0)).1
theorem Qnn {ar:List Tri}{l:List Int}{a:Nat}{x:Tri} (h:ar[a]?=some x):toC ar l (a:Int)=Qac l x.2.1:=by
 unfold toC;rw [Int.toNat_natCast,List.getD_eq_getElem?_getD,h]
 rfl
theorem Qmp {ar:List Tri}{l:List Int}{a:Nat}{x:Tri} (h:ar[a]?=some x):frC ar l (a:Int)=Qac l x.1:=by
 unfold frC;rw [Int.toNat_natCast,List.getD_eq_getElem?_getD,h]
 rfl
def Qdr (t f:Int→Int)(X:List Int)(n:Nat):List (List Int):=(List.range (n*2)).map (fun i:Nat=>if i % 2=0 then X.filter (fun a=>t a == ((i / 2:Nat):Int)) else X.filter (fun a=>f a == ((i / 2:Nat):Int)))
theorem Qfy (t f:Int→Int)(X:List Int)(n:Nat):(Qdr t f X n).length=n*2:=by simp [Qdr]
theorem Qjg {t f:Int→Int}{X:List Int}{n c:Nat}(h:c<n):(Qdr t f X n)[c*2]?=some (X.filter (fun a=>t a == (c:Int))):=by
 unfold Qdr;rw [List.getElem?_map,List.getElem?_range (by omega)];simp
theorem Qhh {t f:Int→Int}{X:List Int}{n c:Nat}(h:c<n):(Qdr t f X n)[c*2+1]?=some (X.filter (fun a=>f a == (c:Int))):=by
 unfold Qdr;rw [List.getElem?_map,List.getElem?_range (by omega),Option.map_some,if_neg (by omega),show (c*2+1) / 2=c by omega]
theorem Qof (t f:Int→Int)(n:Nat):Qdr t f [] n=List.replicate (n*2) []:=by
 apply List.ext_getElem?
 intro i
 rcases Nat.lt_or_ge i (n*2) with h|h
 · unfold Qdr
   rw [List.getElem?_map,List.getElem?_range h];simp [h]
 · rw [List.getElem?_eq_none (by rw [Qfy];exact h),List.getElem?_eq_none (by simpa using h)]
theorem Qmg {t f:Int→Int}{X:List Int}{n p q:Nat}{a:Int} (hp:t a=(p:Int)) (hq:f a=(q:Int)) (h1:p<n) (h2:q<n) :
 ((Qdr t f X n).set (p*2) (X.filter (fun a=>t a == (p:Int)) ++[a])).set (q*2+1) (X.filter (fun a=>f a == (q:Int)) ++[a])=Qdr t f (X ++[a]) n:=by
 apply List.ext_getElem?
 intro i
 rcases Nat.lt_or_ge i (n*2) with hi|hi
 · have hl:∀ Y,(Qdr t f Y n)[i]?=some (if i % 2=0 then Y.filter (fun a=>t a == ((i / 2:Nat):Int)) else Y.filter (fun a=>f a == ((i / 2:Nat):Int))):=fun Y=>by
    unfold Qdr;rw [List.getElem?_map,List.getElem?_range hi]
    rfl
   by_cases e1:q*2+1=i
   · subst e1
     rw [List.getElem?_set_self (by rw [List.length_set,Qfy];exact hi),Qhh h2,List.filter_append];simp [hq]
   · rw [List.getElem?_set_ne e1]
     by_cases e2:p*2=i
     · subst e2
       rw [List.getElem?_set_self (by rw [Qfy];exact hi),Qjg h1,List.filter_append];simp [hp]
     · rw [List.getElem?_set_ne e2,hl,hl]
       congr 1
       rcases Nat.mod_two_eq_zero_or_one i with h0|h0
       · rw [if_pos h0,if_pos h0,List.filter_append]
         simp [hp];omega
       · rw [if_neg (by omega),if_neg (by omega),List.filter_append]
         simp [hq];omega
 · rw [List.getElem?_eq_none (by rw [List.length_set,List.length_set,Qfy];exact hi),List.getElem?_eq_none (by rw [Qfy];exact hi)]
abbrev Qan:=List Int×List Int
def RdC (w:World)(A:Option Addr)(n:Nat)(row:List Qan):Prop :=
 row.length=n∧∀ c x,row[c]?=some x→∃ b o A1 n1 c1 A2 n2 c2,A=some ⟨b,o,none⟩∧w.cell? ⟨b,o+c*2,none⟩=some (.slice A1 n1 c1)∧RdI w A1 n1 x.1∧w.cell? ⟨b,o+c*2+1,none⟩=some (.slice A2 n2 c2)∧RdI w A2 n2 x.2∧(n1≤c1∧c1≤9223372036854775807)∧n2≤c2∧c2≤9223372036854775807
theorem RdC.le {w w':World}{A:Option Addr}{n:Nat}{row:List Qan}(h:RdC w A n row)(hl:Le w w'):RdC w' A n row :=
 ⟨h.1,fun c x hx=>by
  obtain ⟨b,o,A1,n1,c1,A2,n2,c2,e,h1,h2,h3,h4,h5⟩:=h.2 c x hx;exact ⟨b,o,A1,n1,c1,A2,n2,c2,e,hl _ _ h1,h2.le hl,hl _ _ h3,h4.le hl,h5⟩⟩
theorem RdC.at_ {w:World}{A:Option Addr}{n c:Nat}{row:List Qan}(h:RdC w A n row)(hc:c<n):∃ x b o A1 n1 c1 A2 n2 c2,row[c]?=some x∧A=some ⟨b,o,none⟩∧w.cell? ⟨b,o+c*2,none⟩=some (.slice A1 n1 c1)∧RdI w A1 n1 x.1∧w.cell? ⟨b,o+c*2+1,none⟩=some (.slice A2 n2 c2)∧RdI w A2 n2 x.2∧(n1≤c1∧c1≤9223372036854775807)∧n2≤c2∧c2≤9223372036854775807:=by
 have hl:c<row.length:=by rw [h.1];exact hc
 obtain ⟨b,o,A1,n1,c1,A2,n2,c2,h1⟩:=h.2 c _ (Zg hl);exact ⟨_,b,o,A1,n1,c1,A2,n2,c2,Zg hl,h1⟩
def RdG (w:World)(A:Option Addr)(n:Nat) (gs:List (List Qan)):Prop :=
 gs.length=n∧∀ i row,gs[i]?=some row→∃ b o A' n' c',A=some ⟨b,o,none⟩∧w.cell? ⟨b,o+i,none⟩=some (.slice A' n' c')∧RdC w A' n' row∧n'≤c'∧c'≤9223372036854775807
theorem RdG.le {w w':World}{A:Option Addr}{n:Nat} {gs:List (List Qan)} (h:RdG w A n gs) (hl:Le w w'):RdG w' A n gs :=
 ⟨h.1,fun i row hx=>by
  obtain ⟨b,o,A',n',c',e,h1,h2,h3⟩:=h.2 i row hx;exact ⟨b,o,A',n',c',e,hl _ _ h1,h2.le hl,h3⟩⟩
theorem RdG.at_ {w:World}{A:Option Addr}{n i:Nat} {gs:List (List Qan)} (h:RdG w A n gs) (hi:i<n):∃ row b o A' n' c',gs[i]?=some row∧A=some ⟨b,o,none⟩∧w.cell? ⟨b,o+i,none⟩=some (.slice A' n' c')∧RdC w A' n' row∧n'≤c'∧c'≤9223372036854775807:=by
 have hl:i<gs.length:=by rw [h.1];exact hi
 obtain ⟨b,o,A',n',c',h1⟩:=h.2 i _ (Zg hl);exact ⟨_,b,o,A',n',c',Zg hl,h1⟩
def Qaf (ar:List Tri)(l:List Int):List Qan:=(List.range (Qau l).toNat).map (fun c:Nat=>((Qav ar l).filter (fun a=>toC ar l a == (c:Int)),(Qav ar l).filter (fun a=>frC ar l a == (c:Int))))
theorem Qar (ar:List Tri)(l:List Int):(Qaf ar l).length=(Qau l).toNat:=by simp [Qaf]
theorem Qch {ar:List Tri}{l:List Int}{c:Nat} (h:c<(Qau l).toNat):(Qaf ar l)[c]?=some ((Qav ar l).filter (fun a=>toC ar l a == (c:Int)),(Qav ar l).filter (fun a=>frC ar l a == (c:Int))):=by
 unfold Qaf;rw [List.getElem?_map,List.getElem?_range h]
 rfl
def Qae (ar:List Tri) (ls:List (List Int)):List (List Qan):=ls.map (Qaf ar)
set_option maxHeartbeats 1000000 in
theorem Qvi (g a:Nat)(N:Qao)(A:Option Addr)(n c u v:Nat)(z p q:Int)(l:List Int)(w:World)(h:Qeu w g N)(hr:RdI w A n l) (hx:N.ar[a]?=some ((u:Int),(v:Int),z)) (hu:u<n) (hv:v<n) (hp:l[u]?=some p) (hq:l[v]?=some q) :
 Calls prog 221 #[.pointer (some ⟨g,0,none⟩),.slice A n c,.int .i64 a] w fun e w'=>e=.returned (.tuple #[.int .i64 p,.int .i64 q,.bool true])∧∃ k,w'=w.drewN k:=by
 have HF:=Zh (Qht g a N _ w h hx);have HT:=Zh (Qhe g a N _ w h hx);obtain ⟨b,o,p',rfl,hp',cp⟩:=hr.at_ hu;rw [hp] at hp'
 cases hp'
 obtain ⟨b',o',q',e,hq',cq⟩:=hr.at_ hv;rw [hq] at hq'
 cases hq'
 cases e
 have i1:(0:Int)≤(u:Int):=by omega
 have i2:(u:Int)<(n:Int):=by omega
 have i3:(0:Int)≤(v:Int):=by omega
 have i4:(v:Int)<(n:Int):=by omega
 clear h hr hx hp hq
 go_enter func221,ntmps221
 go_wp2_with fail
 with_reducible refine HF.out.mono ?_
 rintro e w' ⟨rfl,rfl⟩
 go_wp2_with fail
 with_reducible refine HT.out.mono ?_
 rintro e w' ⟨rfl,rfl⟩
 go_wp2_with fail
 go_quiet (fail)
 go_wp2_with fail
 go_ret3
 exact ⟨rfl,_,rfl⟩
set_option maxHeartbeats 1000000 in
theorem cross_ok (g:Nat)(N:Qao)(Q:Option Addr)(L cq i n:Nat) (ls:List (List Int)) (l:List Int) (w:World) (h:Qeu w g N) (hN:Qat N) (hq:RdT w Q L ls) (hl:ls[i]?=some l) (hL:L≤1000000) (hlo:Qft n l) (hn:N.vs.length=n) :
 Calls prog 210 #[.pointer (some ⟨g,0,none⟩),.agg #[.slice Q L cq],.int .i64 ((i:Int)+1)] w fun e w'=>∃ A c,e=.returned (.slice A (Qav N.ar l).length c)∧RdI w' A (Qav N.ar l).length (Qav N.ar l)∧(∀ b,Qab A=some b→w.heap.size≤b∧b<w'.heap.size)∧Below w.heap.size w w':=by
 have HG:=Zh h;have HN:=Zh hN;have hn4:n≤4096:=by rw [←hn];exact hN.lv
 have hm:N.ar.length≤16384:=hN.la;have HR:=Zh (show ∀ V,Below w.heap.size w V→Calls prog 220 #[.agg #[.slice Q L cq],.int .i64 ((i:Int)+1)] V fun e w'=>∃ A n c,e=.returned (.slice A n c)∧RdI V A n l∧n≤c∧c≤9223372036854775807∧Below V.heap.size V w' from fun V hV=>row_ok Q L cq i ls l V (hq.below hV) hl hL)
 have HLO:=Zh hlo;have HVN:=Zh hn;clear h hN hq hl hlo hn
 go_enter func210,ntmps210
 go_wp2_with fail
 (refine Qad ?_;intro w1 hw1)
 have hb1:Below w.heap.size w w1:=by rw [hw1];exact Qah
 clear hw1;with_reducible refine (HR.out w1 hb1).mono ?_
 rintro e w2 ⟨A,n',c,rfl,hr,q1,q2,hb2⟩;obtain rfl:n=n':=by rw [←hr.1];exact HLO.out.len.symm
 have hr2:=hr.below hb2;have hbw2:=Zb hb1 hb2;have hz0:=hbw2.size;clear hr hb2 hb1
 go_wp2_with fail
 with_reducible refine (Qhr g N w2 (HG.out.below hbw2)).mono ?_
 rintro e w' ⟨rfl,rfl⟩
 go_wp2_with fail
 generalize hM:N.ar.length=M at *;have HM:=Zh hM;clear hM
 go_loopw [8,18] (fun x q W=>Below w.heap.size w W∧w2.heap.size≤W.heap.size∧Below w2.heap.size w2 W∧∃ (j:Nat) (X:Option Addr) (k cx:Nat),j≤M∧q=.int .i64 j∧x=.slice X k cx∧k≤j∧Own W w2.heap.size 3 1 X k cx (Qag (Qia (Qcf l) (N.ar.take j)))) (fun _ q _=>M-(intOf q).toNat)
 case atStart=>exact ⟨hbw2,Zn _,Zr _ _,0,none,0,0,Nat.zero_le _,rfl,rfl,Zn _,Own.nil _ _ _ _⟩
 case round =>
  clear hbw2;obtain ⟨hbl,hsz,hb2r,j,X,k,cx,hj,rfl,rfl,hkj,hown⟩:=hrel
  by_cases hlt:j<M
  · obtain ⟨⟨fx,tx,zx⟩,hx⟩:∃ x,N.ar[j]?=some x:=⟨_,Zg (by rw [HM.out];exact hlt)⟩
    have hok:=HN.out.arcs _ (Zm hx);have f0:=hok.f0;have f1:=hok.f1;have g0:=hok.g0;have g1:=hok.g1;simp only at f0 f1 g0 g1;rw [HVN.out] at f1 g1;obtain ⟨u,rfl⟩:∃ u:Nat,fx=u:=⟨fx.toNat,by omega⟩;obtain ⟨v,rfl⟩:∃ v:Nat,tx=v:=⟨tx.toNat,by omega⟩;have hu:u<n:=by omega
    have hv:v<n:=by omega
    obtain ⟨p,hp⟩:∃ p,l[u]?=some p:=⟨_,Zg (by rw [HLO.out.len];exact hu)⟩;obtain ⟨q,hq⟩:∃ q,l[v]?=some q:=⟨_,Zg (by rw [HLO.out.len];exact hv)⟩;have HE:=Zh (Qvi g j N A n c u v zx p q l wr (HG.out.below hbl) (hr2.below hb2r) hx hu hv hp hq);have HNX:=Zh (Qkf (P:=Qcf l) hx);have hcb:Qcf l ((u:Int),(v:Int),zx)=(p != q):=by unfold Qcf;simp only;rw [Qas hp,Qas hq]
    rw [hcb] at HNX;clear hx hok hcb hp hq
    go_wp2_with fail
    with_reducible refine HE.out.mono ?_
    rintro e w4 ⟨rfl,nq,hw4⟩;have hbl4:Below w.heap.size w w4:=by rw [hw4];exact Qbc hbl _
    have hb24:Below w2.heap.size w2 w4:=by rw [hw4];exact Qbc hb2r _
    have hsz4:w2.heap.size≤w4.heap.size:=by rw [hw4];exact hsz
    have hown4:Own w4 w2.heap.size 3 1 X k cx (Qag (Qia (Qcf l) (N.ar.take j))):=by rw [hw4];exact hown
    clear hw4 hbl hb2r hsz hown HE
    by_cases hpq:p=q
    · have e1:(p != q)=false:=by simpa using hpq
      have e2:(p == q)=true:=by simpa using hpq
      rw [e1] at HNX;clear hpq
      go_wp2_with fail
      go_roundw
      case rel=>exact ⟨hbl4,hsz4,hb24,j+1,X,k,cx,by omega,by go_num,rfl,by omega,by rw [HNX.out];simpa using hown4⟩
      case measure=>simp [intOf];omega
    · have e1:(p != q)=true:=by simpa using hpq
      have e2:(p == q)=false:=by simpa using hpq
      rw [e1] at HNX;clear hpq;have hlt4:Below w4.heap.size w4 (w4.alloc (.cells #[.int .i64 (j:Int)] 3)):=Qah;have hownA:=hown4.below hlt4;have hrA:Rds (w4.alloc (.cells #[.int .i64 (j:Int)] 3)) 1 (some ⟨w4.heap.size,0,none⟩) 1 (Qag [(j:Int)]):=(Blk.new w4 3 (Qca [(j:Int)])).rds rfl;have hblA:=Zb hbl4 hlt4;have hb2A:=Zb hb24 hlt4
      go_wp2_with (at_builtin;with_reducible refine Qap rfl (.tmp 35) (.tmp 37) 67 rfl 3 _ 1 8 Qaz underlying67 rfl (by omega) rfl rfl hownA hrA (Qaj _) (by omega) (by omega) (by simp;omega) ?_)
      intro A' c' w' hown' hg _;have hbl5:Below w.heap.size w w':=Bel.grownOwn hblA hg (hownA.mono (by omega)) (by simp;omega);have hb25:Below w2.heap.size w2 w':=Bel.grownOwn hb2A hg hownA (by simp;omega);have hsz5:w2.heap.size≤w'.heap.size:=hb25.size;have HO:=Zh hown';clear hown' hg hownA hrA hblA hb2A hlt4 hown4 hbl4 hb24 hsz4
      go_wp2
      go_roundw
      case rel=>exact ⟨hbl5,hsz5,hb25,j+1,A',k+1,c',by omega,by go_num,rfl,by omega,by rw [HNX.out,if_pos trivial,Qbn];exact HO.out⟩
      case measure=>simp [intOf];omega
  · obtain rfl:M=j:=by omega
    rw [List.take_of_length_le (by rw [HM.out];exact Zn _)] at hown;have HO:=Zh hown;have hk:k=(Qav N.ar l).length:=by have:=hown.1;rw [Nat.mul_one] at this;rw [←this];simp [Qag,Qav]
    have HK:=Zh hk;clear hown hk
    go_wp2
    go_ret
    exact ⟨X,cx,by rw [←HK.out];rfl,by rw [←HK.out];exact HO.out.rds.rdI,fun b hb=>by have:=HO.out.lt b hb;omega,hbl⟩
def plI (l:List Int)(v:Int):Int:=match l.findIdx? (· == v) with|some i=>(i:Int)|none=>-1
theorem Qnd {l:List Int}{v:Int}{k:Nat} (h:l[k]?=some v) (hj:∀ j x,j<k→l[j]?=some x→x≠v):plI l v=k:=by
 unfold plI;have hk:=(Zs h).1
 have:l.findIdx? (· == v)=some k:=by
  rw [List.findIdx?_eq_some_iff_getElem];refine ⟨hk,by simpa using (Zs h).2,fun j hjk=>?_⟩
  simpa using hj j _ hjk (Zg (by omega))
 rw [this]
theorem Qcj {l:List Int}{v:Int}(h:v ∉ l):plI l v = -1:=by
 unfold plI
 have:l.findIdx? (· == v)=none:=by
  rw [List.findIdx?_eq_none_iff];intro x hx;have:x≠v:=fun e=>h (e▸hx)
  simpa using this
 rw [this]
theorem Qgc {l:List Int}{v:Int}(h:v∈l):∃ k:Nat,plI l v=k∧l[k]?=some v:=by
 obtain ⟨k,hk⟩:=List.getElem?_of_mem h;unfold plI
 cases e:l.findIdx? (· == v) with
 | none =>
  rw [List.findIdx?_eq_none_iff] at e;have:=e v h;simp at this
 | some i =>
  rw [List.findIdx?_eq_some_iff_getElem] at e;obtain ⟨hi,h1,_⟩:=e;refine ⟨i,rfl,?_⟩;rw [Zg hi]
  simpa using h1
theorem plI_nn {l:List Int}{v:Int}:0≤plI l v↔v∈l:=by
 constructor
 · intro h
   by_cases hm:v∈l
   · exact hm
   · rw [Qcj hm] at h
     omega
 · intro h
   obtain ⟨k,e,_⟩:=Qgc h;omega
set_option maxHeartbeats 400000 in
theorem Qxg (A:Option Addr)(n c:Nat)(l:List Int)(v:Int)(w:World)(h:RdI w A n l)(hn:n≤1000000000) :
 Calls prog 224 #[.slice A n c,.int .i64 v] w fun e w'=>e=.returned (.int .i64 (plI l v))∧w=w':=by
 have HR:=Zh h;have HL:=Zh h.1;clear h
 go_enter func224,ntmps224
 go_wp2_with fail
 go_loop [8] (fun q=>∃ k:Nat,k≤n∧q=.int .i64 k∧∀ j x,j<k→l[j]?=some x→x≠v) (fun q=>n-(intOf q).toNat)
 case atStart=>exact ⟨0,Nat.zero_le _,rfl,fun _ _ h=>absurd h (Nat.not_lt_zero _)⟩
 case round =>
  obtain ⟨k,hk,rfl,hj⟩:=hrel;have HJ:=Zh hj;clear hj
  by_cases hlt:k<n
  · obtain ⟨b,o,x,rfl,hx,hc⟩:=HR.out.at_ hlt
    have i1:(0:Int)≤(k:Int):=by omega
    have i2:(k:Int)<(n:Int):=by omega
    by_cases e:x=v
    · have HP:=Zh (Qnd (e▸hx) HJ.out)
      have e1:(x == v)=true:=by simpa using e
      have e2:(v == x)=true:=by simpa using e.symm
      clear e hx
      go_wp2_with fail
      go_ret
      exact ⟨Qbz HP.out.symm,rfl⟩
    · have e1:(x == v)=false:=by simpa using e
      have e2:(v == x)=false:=by simpa using (fun h:v=x=>e h.symm)
      have HX:=Zh hx;have HE:=Zh e;clear e hx
      go_wp2_with fail
      go_round
      case rel=>exact ⟨k+1,by omega,by go_num,fun j y hj hy=>by
       by_cases ej:j=k
       · subst ej
         rw [HX.out] at hy
         cases hy
         exact HE.out
       · exact HJ.out j y (by omega) hy⟩
      case measure=>simp [intOf];omega
  · obtain rfl:n=k:=by omega
    have HP:=Zh (Qcj (l:=l) (v:=v) (fun hm=>by
     obtain ⟨j,hj⟩:=List.getElem?_of_mem hm;exact HJ.out j v (by rw [←HL.out];exact (Zs hj).1) hj rfl))
    go_wp2_with fail
    go_ret
    exact ⟨Qbz HP.out.symm,rfl⟩
theorem Qnu (A:Option Addr)(n c:Nat)(l:List Int)(v:Int)(w:World)(h:RdI w A n l)(hn:n≤1000000000) :
 Calls prog 216 #[.slice A n c,.int .i64 v] w fun e w'=>e=.returned (.bool (decide (v∈l)))∧w=w':=by
 have HI:=Zh (Qxg A n c l v w h hn);have HD:=Zh (show decide ((0:Int)≤plI l v)=decide (v∈l) by simp [plI_nn])
 clear h
 go_enter func216,ntmps216
 go_wp2_with fail
 with_reducible refine HI.out.mono ?_
 rintro e w' ⟨rfl,rfl⟩;generalize plI l v=p at *
 go_wp2_with fail
 go_ret
 exact ⟨Qbe (by rw [←HD.out]),rfl⟩
theorem less_any (a b:Int)(w:World):Calls prog 181 #[.int .i64 a,.int .i64 b] w fun e w'=>e=.returned (.bool (decide (a<b)))∧w=w':=by
 go_enter func181,ntmps181
 go_wp2
 go_ret
 exact ⟨Qbe (by simp),rfl⟩
def Qif (l:List Int):Bool:=decide (l.Pairwise (·≤·))
theorem Qmi {l:List Int} (h:∀ (j:Nat) (x y:Int),l[j]?=some x→l[j+1]?=some y→x≤y):Qif l=true:=by
 unfold Qif;rw [decide_eq_true_eq,List.pairwise_iff_getElem];intro i j hi hj hij;obtain ⟨d,rfl⟩:∃ d,j=i+1+d:=⟨j-i-1,by omega⟩;clear hij
 induction d with
 | zero=>exact h i _ _ (Zg hi) (Zg hj)
 | succ d ih =>
  have:=ih (by omega);have:=h (i+1+d) _ _ (Zg (by omega)) (Zg hj);omega
theorem Qqg {l:List Int}{j:Nat}{x y:Int} (h1:l[j]?=some x) (h2:l[j+1]?=some y) (h:y<x):Qif l=false:=by
 unfold Qif;rw [decide_eq_false_iff_not,List.pairwise_iff_getElem];intro hp;have:=hp j (j+1) (Zs h1).1 (Zs h2).1 (by omega);rw [(Zs h1).2,(Zs h2).2] at this;omega
set_option maxHeartbeats 1000000 in
theorem Qny (A:Option Addr)(n c:Nat)(l:List Int)(w:World)(h:RdI w A n l)(hn:n≤1000000000) :
 Calls prog 217 #[.slice A n c] w fun e w'=>e=.returned (.bool (Qif l))∧∃ k,w'=w.drewN k:=by
 have HR:=Zh h;have HL:=Zh h.1;clear h
 go_enter func217,ntmps217
 go_wp2_with fail
 go_loopw [3] (fun q W=>(∃ d,W=w.drewN d)∧∃ k:Int,-1≤k∧k<n∧q=.int .i64 k∧∀ (j:Nat) x y,k≤j→l[j]?=some x→l[j+1]?=some y→x≤y) (fun q _=>(intOf q).toNat)
 case atStart =>
  refine ⟨⟨0,rfl⟩,(n:Int)-1,by omega,by omega,rfl,fun j x y hj _ hy=>?_⟩;have:=(Zs hy).1;rw [HL.out] at this;omega
 case round =>
  obtain ⟨hd,k,hk,hkn,rfl,hj⟩:=hrel;have HW:=Zh hd;have HJ:=Zh hj;clear hj
  by_cases hlt:0<k
  · obtain ⟨m,rfl⟩:∃ m:Nat,k=(m:Int)+1:=⟨(k-1).toNat,by omega⟩
    obtain ⟨b,o,x,rfl,hx,hc⟩:=HR.out.at_ (show m<n by omega)
    obtain ⟨b',o',y,e,hy,hc'⟩:=HR.out.at_ (show m+1<n by omega)
    cases e
    have hc1:wr.cell? ⟨b,o+m,none⟩=some (.int .i64 x):=by obtain ⟨d,rfl⟩:=hd;exact hc
    have hc2:wr.cell? ⟨b,o+(m+1),none⟩=some (.int .i64 y):=by obtain ⟨d,rfl⟩:=hd;exact hc'
    have HLS:=Zh (fun V=>less_any y x V);have i1:(0:Int)≤(m:Int):=by omega
    have i2:(m:Int)<(n:Int):=by omega
    have i3:(m:Int)+1<(n:Int):=by omega
    have i4:(0:Int)≤(m:Int)+1:=by omega
    have i5:(m:Int)+1-1=(m:Int):=by omega
    have i6:((m:Int)+1).toNat=m+1:=by omega
    have HX:=Zh hx;have HY:=Zh hy;clear hx hy hc hc' hd
    by_cases hyx:y<x
    · have e1:decide (y<x)=true:=by simpa using hyx
      have HS:=Zh (Qqg HX.out HY.out hyx)
      go_wp2_with fail
      go_quiet ((go_at_call 181;exact Qgg (HLS.out _)))
      go_wp2_with fail
      go_ret
      refine ⟨Qbe HS.out.symm,?_⟩;obtain ⟨d,e⟩:=HW.out;exact ⟨d+nq,by rw [e,World.drewN_drewN]⟩
    · have e1:decide (y<x)=false:=by simpa using hyx
      have HS:=Zh hyx
      go_wp2_with fail
      go_quiet ((go_at_call 181;exact Qgg (HLS.out _)))
      go_wp2_with fail
      go_roundw
      case rel =>
       obtain ⟨d,e⟩:=HW.out;refine ⟨⟨d+nq,by rw [e,World.drewN_drewN]⟩,(m:Int),by omega,by omega,by first|rfl|go_num,fun j x' y' hj h1 h2=>?_⟩
       by_cases ej:j=m
       · subst ej
         rw [HX.out] at h1;rw [HY.out] at h2
         cases h1
         cases h2
         have:=HS.out;omega
       · exact HJ.out j x' y' (by omega) h1 h2
      case measure=>simp [intOf]
  · have HS:=Zh (Qmi (l:=l) (fun j x y h1 h2=>HJ.out j x y (by omega) h1 h2))
    go_wp2_with fail
    go_ret
    exact ⟨Qbe HS.out.symm,HW.out⟩
def Qpu (l:List Int)(n:Nat):List Int:=(List.range n).map (fun c:Nat=>((l.countP (fun x=>x == (c:Int)):Nat):Int))
theorem Qgi (l:List Int)(n:Nat):(Qpu l n).length=n:=by simp [Qpu]
theorem Qej {l:List Int}{n v:Nat}(h:v<n):(Qpu l n)[v]?=some ((l.countP (fun x=>x == (v:Int)):Nat):Int):=by
 unfold Qpu;rw [List.getElem?_map,List.getElem?_range h]
 rfl
theorem Qnt (n:Nat):Qca (Qpu [] n)=Qbs (.int .i64 0) n:=by
 rw [Qcn]
 congr 1
 apply List.ext_getElem?
 intro i
 rcases Nat.lt_or_ge i n with h|h
 · rw [Qej h];simp [h]
 · rw [List.getElem?_eq_none (by rw [Qgi];exact h),List.getElem?_eq_none (by simpa using h)]
theorem Qps {l:List Int}{n v k:Nat} (ha:l[k]?=some (v:Int)) (h:v<n) :
 (Qpu (l.take k) n).set v ((((l.take k).countP (fun x=>x == (v:Int)):Nat):Int)+1)=Qpu (l.take (k+1)) n:=by
 apply List.ext_getElem?
 intro i;rw [List.take_succ_eq_append_getElem (Zs ha).1,(Zs ha).2]
 rcases Nat.lt_or_ge i n with hi|hi
 · rw [Qej hi,List.countP_append]
   by_cases e:v=i
   · subst e
     rw [List.getElem?_set_self (by rw [Qgi];exact h)];simp
   · rw [List.getElem?_set_ne e,Qej hi]
     have:((v:Int) == (i:Int))=false:=by simp;omega
     simp [this]
 · rw [List.getElem?_eq_none (by rw [List.length_set,Qgi];exact hi),List.getElem?_eq_none (by rw [Qgi];exact hi)]
theorem Qvx (l:List Int)(k:Nat)(v:Int):(l.take k).countP (fun x=>x == v)≤k:=Nat.le_trans List.countP_le_length (List.length_take_le _ _)
theorem Qxo (l:List Int){n m:Nat}(h:m≤n):(Qpu l n).take m=Qpu l m:=by
 apply List.ext_getElem?
 intro i;rw [List.getElem?_take]
 split
 · rename_i hi
   rw [Qej (by omega),Qej hi]
 · rw [List.getElem?_eq_none (by rw [Qgi];omega)]
theorem cntI_pos {n:Nat}{l:List Int}(h:Qft n l):(0:Int) ∉ Qpu l (Qau l).toNat:=by
 intro hm;unfold Qpu at hm;rw [List.mem_map] at hm;obtain ⟨c,hc,e⟩:=hm;rw [List.mem_range] at hc;have hc2:=h.all c (by omega);have:=List.countP_pos_iff (p:=fun x=>x == (c:Int)).2 ⟨(c:Int),hc2,by simp⟩;omega
set_option maxHeartbeats 1000000 in
theorem tally_ok (A:Option Addr)(n c:Nat)(l:List Int)(w:World)(h:RdI w A n l)(hl:Qft n l)(hn:n≤1000000) :
 Calls prog 205 #[.slice A n c] w fun e w'=>∃ g,e=.returned (.tuple #[.slice (some ⟨g,0,none⟩) (Qau l).toNat n,.bool true])∧RdI w' (some ⟨g,0,none⟩) (Qau l).toNat (Qpu l (Qau l).toNat)∧Below w.heap.size w w':=by
 have HR:=Zh h;have HL:=Zh h.1;have HO:=Zh hl;have hmk:=Qdn n (by omega);clear h hl
 go_enter func205,ntmps205
 go_wp2_with fail
 (refine Qai ?_;intro w1 hw1)
 have hb1:Below w.heap.size w w1:=by rw [hw1];exact Qah
 have hB1:Blk w1 w.heap.size 3 (Qca (Qpu (l.take 0) n)):=by rw [hw1,List.take_zero,Qnt];exact Blk.new _ _ _
 clear hw1 hmk
 go_loopw [6,15] (fun m q W=>Below w.heap.size w W∧∃ k:Nat,k≤n∧q=.int .i64 k∧m=.int .i64 (Qau (l.take k)-1)∧Blk W w.heap.size 3 (Qca (Qpu (l.take k) n))) (fun _ q _=>n-(intOf q).toNat)
 case atStart=>exact ⟨hb1,0,Nat.zero_le _,rfl,rfl,hB1⟩
 case round =>
  clear hb1 hB1;obtain ⟨hbl,k,hk,rfl,rfl,hB⟩:=hrel
  by_cases hlt:k<n
  · obtain ⟨b,o,x,rfl,hx,hc⟩:=HR.out.at_ hlt
    have x0:=HO.out.lo x (Zm hx);have x1:=HO.out.hi x (Zm hx);obtain ⟨v,rfl⟩:∃ v:Nat,x=v:=⟨x.toNat,by omega⟩;have hv:v<n:=by omega
    have hc2:=Zc hbl (Zn _) hc;have HNX:=Zh (Qgh hx);have c1:=hB.cellI (Qej (l:=l.take k) hv);have c1f:=hB.frozen v;have d1:=Qvx l k (v:Int);have m0:=Qcb (l.take k);have m1:=Qcc (l:=l.take k) (n:=(n:Int)) (fun x hx=>HO.out.hi x (List.mem_of_mem_take hx)) (by omega);have HBN:=Zh (hB.setI (Qps hx hv));have i1:(0:Int)≤(k:Int):=by omega
    have i2:(k:Int)<(n:Int):=by omega
    have i3:(0:Int)≤(v:Int):=by omega
    have i4:(v:Int)<(n:Int):=by omega
    clear hx hc hB;generalize (l.take k).countP (fun x=>x == (v:Int))=p at *;generalize Qau (l.take k)=m at *;have hbn:Below w.heap.size w (wr.setCell ⟨w.heap.size,v,none⟩ (.int .i64 ((p:Int)+1))):=hbl.setCell (Zn _) _;have HM:=Zh (show (if m-1<(v:Int) then (v:Int) else m-1)=max m ((v:Int)+1)-1 by split <;> omega)
    go_wp2_with fail
    go_roundw
    case rel=>exact ⟨hbn,k+1,by omega,by go_num,by rw [HNX.out,HM.out],HBN.out⟩
    case measure=>simp [intOf];omega
  · obtain rfl:n=k:=by omega
    rw [List.take_of_length_le (by rw [HL.out];exact Zn _)] at hB;have HE:=Zh (show Qau (l.take n)=Qau l by rw [List.take_of_length_le (by rw [HL.out];exact Zn _)])
    have m0:=Qcb l;have m1:=Qcc (l:=l) (n:=(n:Int)) (fun x hx=>HO.out.hi x hx) (by omega);have HP:=Zh (cntI_pos HO.out);have hrd:=(hB.rdI (n:=n) (Qgi l n)).take (m:=(Qau l).toNat) (by omega);rw [Qxo l (by omega)] at hrd;rw [HE.out];obtain ⟨M,hM⟩:∃ M:Nat,Qau l=M:=⟨(Qau l).toNat,by omega⟩;rw [hM] at m0 m1 ⊢;have HMM:=Zh hM;rw [hM,Int.toNat_natCast] at hrd HP;have HCT:=Zh (show Calls prog 216 #[.slice (some ⟨w.heap.size,0,none⟩) M n,.int .i64 0] wr fun e w'=>e=.returned (.bool false)∧wr=w' from (Qnu _ M n _ 0 wr hrd (by omega)).mono (fun e w' h=>⟨by rw [h.1,decide_eq_false HP.out],h.2⟩))
    have HRD:=Zh hrd;clear hM hrd hB;have i1:(M:Int)-1+1=(M:Int):=by omega
    go_wp2_with fail
    with_reducible refine HCT.out.mono ?_
    rintro e w' ⟨rfl,rfl⟩
    go_wp2_with fail
    go_ret2
    exact ⟨w.heap.size,by rw [HMM.out,Int.toNat_natCast];rfl,by rw [HMM.out,Int.toNat_natCast];exact HRD.out,hbl⟩
structure UpI (p l U:List Int) (k:Nat):Prop where
 len:U.length=p.length
 put:∀ (v c:Nat) (y:Int),v<k→p[v]?=some (c:Int)→l[v]?=some y→U[c]?=some y
 got:∀ (c:Nat) (y:Int),U[c]?=some y→y = -1∨∃ v,v<k∧p[v]?=some (c:Int)∧l[v]?=some y
theorem UpI.start (p l:List Int):UpI p l (List.replicate p.length (-1)) 0 :=
 ⟨by simp,fun v _ _ h=>absurd h (Nat.not_lt_zero _),fun c y h=>.inl (by
  have:=Zm h;exact (List.mem_replicate.1 this).2)⟩
theorem UpI.next {p l U:List Int}{k c:Nat}{y:Int}(h:UpI p l U k)(hn:Qds p l) (hp:p[k]?=some (c:Int)) (hl:l[k]?=some y) (hc:c<p.length):UpI p l (U.set c y) (k+1):=by
 refine ⟨by rw [List.length_set];exact h.len,fun v d z hv h1 h2=>?_,fun d z hz=>?_⟩
 · by_cases e:c=d
   · subst e
     rw [List.getElem?_set_self (by rw [h.len];exact hc)];have q1:=hn v k _ _ _ _ h1 hp h2 hl (Int.le_refl _);have q2:=hn k v _ _ _ _ hp h1 hl h2 (Int.le_refl _)
     congr 1
     omega
   · rw [List.getElem?_set_ne e]
     by_cases ev:v=k
     · subst ev
       rw [hp] at h1
       injection h1 with h1
       omega
     · exact h.put v d z (by omega) h1 h2
 · by_cases e:c=d
   · subst e
     rw [List.getElem?_set_self (by rw [h.len];exact hc)] at hz
     cases hz
     exact .inr ⟨k,by omega,hp,hl⟩
   · rw [List.getElem?_set_ne e] at hz
     rcases h.got d z hz with h1|⟨v,h1,h2⟩
     · exact .inl h1
     · exact .inr ⟨v,by omega,h2⟩
theorem UpI.eq {p l U:List Int}{k c:Nat}{y z:Int}(h:UpI p l U k)(hn:Qds p l) (hp:p[k]?=some (c:Int)) (hl:l[k]?=some y) (hz:U[c]?=some z):z = -1∨z=y:=by
 rcases h.got c z hz with h1|⟨v,h1,h2,h3⟩
 · exact .inl h1
 · have q1:=hn v k _ _ _ _ h2 hp h3 hl (Int.le_refl _)
   have q2:=hn k v _ _ _ _ hp h2 hl h3 (Int.le_refl _);exact .inr (by omega)
theorem UpI.sorted {p l U:List Int}{n:Nat}(h:UpI p l U n)(hn:Qds p l)(hp:Qft n p)(hl:l.length=n):Qif (U.take (Qau p).toNat)=true:=by
 refine Qmi (fun j x y h1 h2=>?_);rw [List.getElem?_take] at h1 h2
 split at h1
 · rename_i q1
   split at h2
   · rename_i q2
     obtain ⟨a,ha⟩:=List.getElem?_of_mem (hp.all j (by omega));obtain ⟨b,hb⟩:=List.getElem?_of_mem (hp.all (j+1) (by omega));have la:=(Zs ha).1;have lb:=(Zs hb).1;rw [hp.len] at la lb;have ea:l[a]?=some l[a]:=Zg (by omega);have eb:l[b]?=some l[b]:=Zg (by omega);have p1:=h.put a j _ la ha ea;have p2:=h.put b (j+1) _ lb hb eb;rw [p1] at h1;rw [p2] at h2
     cases h1
     cases h2
     exact hn a b _ _ _ _ ha hb ea eb (by omega)
   · cases h2
 · cases h1
theorem Qxx {n k:Nat}(h:k<n):(List.replicate k (-1:Int) ++List.replicate (n-k) 0).set k (-1)=List.replicate (k+1) (-1) ++List.replicate (n-(k+1)) 0:=by
 rw [List.set_append_right _ _ (by simp)];obtain ⟨m,hm⟩:∃ m,n-k=m+1:=⟨n-k-1,by omega⟩;rw [hm,show n-(k+1)=m by omega,List.replicate_succ' (n:=k)]
 simp [List.replicate_succ]
set_option maxHeartbeats 2000000 in
theorem Qyp (A B:Option Addr)(n c d:Nat)(p l:List Int)(w:World)(h:RdI w A n p)(h2:RdI w B n l)(hp:Qft n p)(hl:Qft n l)(hN:Qds p l)(hn:n≤1000000) :
 Calls prog 206 #[.slice A n c,.slice B n d] w fun e w'=>e=.returned (.bool true)∧Below w.heap.size w w':=by
 have HR:=Zh h;have HR2:=Zh h2;have HL:=Zh h.1;have HO:=Zh hp;have HO2:=Zh hl;have HN:=Zh hN;have hmk:=Qdn n (by omega);clear h h2 hl hp hN
 go_enter func206,ntmps206
 go_wp2_with fail
 (refine Qai ?_;intro w1 hw1)
 have hb1:Below w.heap.size w w1:=by rw [hw1];exact Qah
 have hB1:Blk w1 w.heap.size 3 (Qca (List.replicate 0 (-1) ++List.replicate (n-0) 0)):=by rw [hw1];simp only [List.replicate_zero,List.nil_append,Nat.sub_zero];rw [←Qcn];exact Blk.new _ _ _
 clear hw1 hmk
 go_loopw [15] (fun q W=>Below w.heap.size w W∧∃ k:Nat,k≤n∧q=.int .i64 k∧Blk W w.heap.size 3 (Qca (List.replicate k (-1) ++List.replicate (n-k) 0))) (fun q _=>n-(intOf q).toNat)
 case atStart=>exact ⟨hb1,0,Nat.zero_le _,rfl,hB1⟩
 case round =>
  clear hb1 hB1;obtain ⟨hbl,k,hk,rfl,hB⟩:=hrel
  by_cases hlt:k<n
  · obtain ⟨z,hz⟩:∃ z,(List.replicate k (-1:Int) ++List.replicate (n-k) 0)[k]?=some z:=⟨_,Zg (by simp;omega)⟩
    have c1:=hB.cellI hz;have c1f:=hB.frozen k;have HB:=Zh (hB.setI (Qxx hlt));have hbn:Below w.heap.size w (wr.setCell ⟨w.heap.size,k,none⟩ (.int .i64 (-1))):=hbl.setCell (Zn _) _;have i1:(0:Int)≤(k:Int):=by omega
    have i2:(k:Int)<(n:Int):=by omega
    clear hB hz hbl
    go_wp2_with fail
    go_roundw
    case rel=>exact ⟨hbn,k+1,by omega,by go_num,HB.out⟩
    case measure=>simp [intOf];omega
  · obtain rfl:n=k:=by omega
    rw [Nat.sub_self,List.replicate_zero,List.append_nil] at hB;have HU:=Zh (show UpI p l (List.replicate n (-1)) 0 from by have:=UpI.start p l;rw [HL.out] at this;exact this)
    go_wp2_with fail
    go_loopw [7,24] (fun m q W=>Below w.heap.size w W∧∃ (k:Nat) (U:List Int),k≤n∧q=.int .i64 k∧m=.int .i64 (Qau (p.take k)-1)∧Blk W w.heap.size 3 (Qca U)∧UpI p l U k) (fun _ q _=>n-(intOf q).toNat)
    case atStart=>exact ⟨hbl,0,_,Nat.zero_le _,rfl,rfl,hB,HU.out⟩
    case round =>
     clear hbl hB HU;obtain ⟨hbl,k,U,hk,rfl,rfl,hB,hU⟩:=hrel;have HU:=Zh hU
     by_cases hlt2:k<n
     · obtain ⟨b,o,x,rfl,hx,hc⟩:=HR.out.at_ hlt2
       obtain ⟨b2,o2,y,rfl,hy,hcy⟩:=HR2.out.at_ hlt2;have x0:=HO.out.lo x (Zm hx);have x1:=HO.out.hi x (Zm hx);have y0:=HO2.out.lo y (Zm hy);obtain ⟨v,rfl⟩:∃ v:Nat,x=v:=⟨x.toNat,by omega⟩;have hv:v<n:=by omega
       have hc2:=Zc hbl (Zn _) hc;have hcy2:=Zc hbl (Zn _) hcy;have HNX:=Zh (Qgh hx);obtain ⟨z,hz⟩:∃ z,U[v]?=some z:=⟨_,Zg (by rw [hU.len,HL.out];exact hv)⟩;have hzz:=hU.eq HN.out hx hy hz;have c1:=hB.cellI hz;have c1f:=hB.frozen v;have m0:=Qcb (p.take k);have m1:=Qcc (l:=p.take k) (n:=(n:Int)) (fun x hx=>HO.out.hi x (List.mem_of_mem_take hx)) (by omega);have HBN:=Zh (hB.setI (l':=U.set v y) rfl);have HUN:=Zh (hU.next HN.out hx hy (by rw [HL.out];exact hv));have i1:(0:Int)≤(k:Int):=by omega
       have i2:(k:Int)<(n:Int):=by omega
       have i3:(0:Int)≤(v:Int):=by omega
       have i4:(v:Int)<(n:Int):=by omega
       have hbn:Below w.heap.size w (wr.setCell ⟨w.heap.size,v,none⟩ (.int .i64 y)):=hbl.setCell (Zn _) _;clear hx hy hc hcy hB hU hz HU hbl;generalize Qau (p.take k)=m at *;have HM:=Zh (show (if m-1<(v:Int) then (v:Int) else m-1)=max m ((v:Int)+1)-1 by split <;> omega)
       by_cases hz0:z ≥ 0
       · obtain rfl:z=y:=by omega
         clear hzz
         go_wp2_with fail
         go_quiet (fail)
         go_wp2_with fail
         go_roundw
         case rel=>exact ⟨Qbc hbn _,k+1,_,by omega,by go_num,by rw [HNX.out,HM.out],HBN.out.drewN _,HUN.out⟩
         case measure=>simp [intOf];omega
       · obtain rfl:z = -1:=by omega
         clear hzz hz0
         go_wp2_with fail
         go_quiet (fail)
         go_wp2_with fail
         go_roundw
         case rel=>exact ⟨Qbc hbn _,k+1,_,by omega,by go_num,by rw [HNX.out,HM.out],HBN.out.drewN _,HUN.out⟩
         case measure=>simp [intOf];omega
     · obtain rfl:n=k:=by omega
       have HE:=Zh (show Qau (p.take n)=Qau p by rw [List.take_of_length_le (by rw [HL.out];exact Zn _)])
       have m0:=Qcb p;have m1:=Qcc (l:=p) (n:=(n:Int)) (fun x hx=>HO.out.hi x hx) (by omega);have HS:=Zh (hU.sorted HN.out HO.out HO2.out.len);have hrd:=(hB.rdI (n:=n) (by rw [hU.len];exact HL.out)).take (m:=(Qau p).toNat) (by omega);rw [HE.out];obtain ⟨M,hM⟩:∃ M:Nat,Qau p=M:=⟨(Qau p).toNat,by omega⟩;rw [hM] at m0 m1 ⊢;rw [hM,Int.toNat_natCast] at hrd HS;have HCT:=Zh (show Calls prog 217 #[.slice (some ⟨w.heap.size,0,none⟩) M n] wr fun e w'=>e=.returned (.bool true)∧∃ k,w'=wr.drewN k from (Qny _ M n _ wr hrd (by omega)).mono (fun e w' h=>⟨by rw [h.1,HS.out],h.2⟩))
       have i1:(M:Int)-1+1=(M:Int):=by omega
       clear hM hrd hB hU HE HU
       go_wp2_with fail
       with_reducible refine HCT.out.mono ?_
       rintro e w' ⟨rfl,nq,hw'⟩;have hbe:Below w.heap.size w w':=by rw [hw'];exact Qbc hbl _
       clear hw'
       go_wp2_with fail
       go_ret
       exact ⟨rfl,hbe⟩
set_option maxHeartbeats 2000000 in
set_option maxRecDepth 20000 in
theorem Qir (Q:Option Addr)(n L cq:Nat) (ls:List (List Int)) (w:World) (h:RdT w Q L ls) (hP:Qay n ls) (hn:n≤4096) :
 Calls prog 167 #[.int .i64 n,.agg #[.slice Q L cq],.slice none 0 0] w fun e w'=>e=.returned .nilIface∧Below w.heap.size w w':=by
 have HT:=Zh h;have HP:=Zh hP;have l1:1≤L:=by rw [←h.1];exact hP.l1
 have l6:L≤6:=by rw [←h.1];exact hP.l6
 have HLEN:=Zh h.1;clear h hP;have j1:((L:Int) == 0)=false:=by simp;omega
 have j2:¬(n:Int)<0:=by omega
 have j3:¬(n:Int) > 4096:=by omega
 have j4:¬(L:Int) > 6:=by omega
 have j5:¬L=0:=by omega
 go_enter func167,ntmps167
 go_wp2_with fail
 (refine Qai ?_;intro w1 hw1)
 have hb1:Below w.heap.size w w1:=by rw [hw1];exact Qah
 have hQ:Blk w1 w.heap.size 87 #[.slice Q L cq]:=by rw [hw1];exact Qbd
 have hBd:Blk w1 (w.heap.size+1) 67 #[.slice none 0 0]:=by rw [hw1];exact Qbd
 clear hw1
 go_loopw [45] (fun q W=>Below w.heap.size w W∧Blk W w.heap.size 87 #[.slice Q L cq]∧Blk W (w.heap.size+1) 67 #[.slice none 0 0]∧∃ i:Nat,i≤L∧q=.int .i64 i) (fun q _=>L-(intOf q).toNat)
 case atStart=>exact ⟨hb1,hQ,hBd,0,Nat.zero_le _,rfl⟩
 case round =>
  clear hb1 hQ hBd;obtain ⟨hbl,hQ,hBd,i,hi,rfl⟩:=hrel
  by_cases hlt:i<L
  · obtain ⟨b,o,A,m,c,l,rfl,hl,hc,hr,q1,q2⟩:=HT.out.at_ hlt
    have hlo:=HP.out.lvl l (Zm hl);obtain rfl:m=n:=by rw [←hr.1];exact hlo.len
    have hcc:=Zc hbl (Zn _) hc;have HTL:=Zh (show ∀ V,Below w.heap.size w V→Calls prog 205 #[.slice A m c] V fun e w'=>∃ g,e=.returned (.tuple #[.slice (some ⟨g,0,none⟩) (Qau l).toNat m,.bool true])∧Below V.heap.size V w' from fun V hV=>(tally_ok A m c l V (hr.below hV) hlo (by omega)).mono (fun e w' ⟨g,h1,_,h3⟩=>⟨g,h1,h3⟩))
    have HR:=Zh hr;have HLO:=Zh hlo;have HLL:=Zh hl;have i1:(0:Int)≤(i:Int):=by omega
    have i2:(i:Int)<(L:Int):=by omega
    clear hr hlo hl hc q1
    by_cases hi0:i=0
    · have e0:¬((i:Int) > 0):=by omega
      have e00:¬(0<i):=by omega
      clear hi0
      go_wp2_with fail
      (refine Qad ?_;intro w2 hw2)
      have hb2:Below wr.heap.size wr w2:=by rw [hw2];exact Qah
      have hX:Blk w2 wr.heap.size 3 #[.int .i64 (i:Int)]:=by rw [hw2];exact Qbd
      clear hw2;have hbl2:=Zb hbl hb2;with_reducible refine (HTL.out w2 hbl2).mono ?_
      rintro e w3 ⟨g,rfl,hb3⟩;have hX3:=(hX.below hb3 hX.lt).cell 0;have hQ3:=(hQ.below hb2 hQ.lt).below hb3 (hQ.below hb2 hQ.lt).lt;have hB3:=(hBd.below hb2 hBd.lt).below hb3 (hBd.below hb2 hBd.lt).lt;have z1:=hQ3.lt;have z2:=hB3.lt;have y1:=hQ3.cell 0;have y2:=hB3.cell 0;simp only [List.getElem?_toArray,List.getElem?_cons_zero] at hX3 y1 y2;have hbl3:=Zb hbl2 hb3;clear hX hQ hBd hcc hb2 hb3
      go_wp2_with fail
      go_roundw
      case rel=>exact ⟨hbl3,hQ3,hB3,i+1,by omega,by go_num⟩
      case measure=>simp [intOf];omega
    · obtain ⟨j,rfl⟩:∃ j,i=j+1:=⟨i-1,by omega⟩
      obtain ⟨b',o',A',m',c',l',e,hl',hc',hr',q1',q2'⟩:=HT.out.at_ (show j<L by omega)
      cases e
      have hlo':=HP.out.lvl l' (Zm hl');obtain rfl:m'=m:=by rw [←hr'.1];exact hlo'.len
      have hne:=HP.out.nest j l' l hl' HLL.out;have HNS:=Zh (show ∀ V,Below w.heap.size w V→Calls prog 206 #[.slice A' m' c',.slice A m' c] V fun e w'=>e=.returned (.bool true)∧Below V.heap.size V w' from fun V hV=>Qyp A' A m' c' c l' l V (hr'.below hV) (HR.out.below hV) hlo' HLO.out hne (by omega))
      have hcc':=Zc hbl (Zn _) hc';have i3:((j:Int)+1)-1=(j:Int):=by omega
      have i4:(0:Int)≤(j:Int):=by omega
      have i5:(j:Int)<(L:Int):=by omega
      clear hr' hlo' hl' hc' q1' hne hi0
      go_wp2_with fail
      (refine Qad ?_;intro w2 hw2)
      have hb2:Below wr.heap.size wr w2:=by rw [hw2];exact Qah
      have hX:Blk w2 wr.heap.size 3 #[.int .i64 ((j:Int)+1)]:=by rw [hw2];exact Qbd
      clear hw2;have hbl2:=Zb hbl hb2;with_reducible refine (HTL.out w2 hbl2).mono ?_
      rintro e w3 ⟨g,rfl,hb3⟩;have hbX3:=hX.below hb3 hX.lt;have hX3:=hbX3.cell 0;have hQ3:=(hQ.below hb2 hQ.lt).below hb3 (hQ.below hb2 hQ.lt).lt;have hB3:=(hBd.below hb2 hBd.lt).below hb3 (hBd.below hb2 hBd.lt).lt;have y1:=hQ3.cell 0;simp only [List.getElem?_toArray,List.getElem?_cons_zero] at hX3 y1;have hbl3:=Zb hbl2 hb3;have d1:=Zc hb3 (Zn _) (Zc hb2 (Zn _) hcc);have d2:=Zc hb3 (Zn _) (Zc hb2 (Zn _) hcc');clear hX hQ hBd hcc hb2 hb3 hcc'
      go_wp2_with fail
      with_reducible refine (HNS.out w3 hbl3).mono ?_
      rintro e w4 ⟨rfl,hb4⟩;have hX4:=(hbX3.below hb4 hbX3.lt).cell 0;have hQ4:=hQ3.below hb4 hQ3.lt;have hB4:=hB3.below hb4 hB3.lt;have y2:=hB4.cell 0;simp only [List.getElem?_toArray,List.getElem?_cons_zero] at hX4 y2;have hbl4:=Zb hbl3 hb4;clear d1 d2 hX3 y1 hbX3 hQ3 hB3 hb4
      go_wp2_with fail
      go_roundw
      case rel=>exact ⟨hbl4,hQ4,hB4,j+1+1,by omega,by go_num⟩
      case measure=>simp [intOf];omega
  · obtain rfl:L=i:=by omega
    go_wp2_with fail
    go_ret
    exact ⟨rfl,hbl⟩
end Go.Proofs.YteaoiabikjnkeaaGreatDoor
