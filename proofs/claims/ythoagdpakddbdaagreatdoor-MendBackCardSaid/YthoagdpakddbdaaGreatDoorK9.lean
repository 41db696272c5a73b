/- Parts of the proof: Pt, Pa, Gw, Rm, Ls. -/
import Derived.Test.YthoagdpakddbdaaGreatDoorK1
import Derived.Test.YthoagdpakddbdaaGreatDoorK2
import Derived.Test.YthoagdpakddbdaaGreatDoorK4
import Derived.Test.YthoagdpakddbdaaGreatDoorK5
namespace Go.Proofs.YthoagdpakddbdaaGreatDoor
open Go.RowKit Go.Proofs.Tryz
theorem Qlj {P:List Int→Prop} (h0:P []) (hs:∀ l x,P l→P (l ++[x])) (l:List Int):P l:=by
 have h:∀ l:List Int,P l.reverse:=by
  intro l
  induction l with
  | nil=>exact h0
  | cons x l ih=>rw [List.reverse_cons];exact hs _ _ ih
 have:=h l.reverse
 rwa [List.reverse_reverse] at this
def Qam (l:List Int):Int:=l.foldl (fun n x=>max n (x+1)) 0
theorem Qgx (l:List Int)(x:Int):Qam (l ++[x])=max (Qam l) (x+1):=by simp [Qam]
theorem Qbv:∀ l:List Int,0≤Qam l:=by
 refine Qlj (by simp [Qam]) (fun l x ih=>by rw [Qgx];omega)
theorem Qlz {l:List Int}{x:Int}:x∈l→x<Qam l:=by
 revert x
 refine Qlj (P:=fun l=>∀ {x:Int},x∈l→x<Qam l) (fun h=>by cases h) (fun l y ih=>?_) l
 · intro x h
   rw [Qgx]
   rcases List.mem_append.1 h with h|h
   · have:=ih h;omega
   · rw [List.mem_singleton.1 h];omega
theorem Qvv {l:List Int}:0<Qam l→∃ x∈l,Qam l=x+1:=by
 refine Qlj (P:=fun l=>0<Qam l→∃ x∈l,Qam l=x+1) (fun h=>by simp [Qam] at h) (fun l y ih=>?_) l
 · intro h
   rw [Qgx] at h ⊢
   by_cases h1:Qam l≤y+1
   · exact ⟨y,by simp,by omega⟩
   · have h0:=Qbv l
     obtain ⟨x,hx,e⟩:=ih (by omega);exact ⟨x,List.mem_append_left _ hx,by omega⟩
theorem Qcd {l:List Int}{n:Int}(h:∀ x∈l,x<n)(hn:0≤n):Qam l≤n:=by
 by_cases h0:0<Qam l
 · obtain ⟨x,hx,e⟩:=Qvv h0
   have:=h x hx;omega
 · omega
structure Qen (n:Nat) (l:List Int):Prop where
 len:l.length=n
 lo:∀ x∈l,0≤x
 hi:∀ x∈l,x<n
 all:∀ c:Nat,(c:Int)<Qam l→(c:Int)∈l
def Qdj (p l:List Int):Prop:=∀ (a b:Nat) (x y u v:Int),p[a]?=some x→p[b]?=some y→l[a]?=some u→l[b]?=some v→x≤y→u≤v
structure Qcl (n:Nat) (ls:List (List Int)):Prop where
 l1:1≤ls.length
 l6:ls.length≤6
 lvl:∀ l∈ls,Qen n l
 nest:∀ (i:Nat) p l,ls[i]?=some p→ls[i+1]?=some l→Qdj p l
noncomputable def Qee (n:Nat) (p:Option (List Int)) (l:List Int):Int:=by
 classical exact if l.length≠n then 1 else if Qen n l∧∀ q,p=some q→Qdj q l then 0 else 10
attribute [local go_sem ↓] Go.wp_at_zero Go.wp_at_succ
theorem Qht (Q:Option Addr)(L cq i:Nat) (ls:List (List Int)) (l:List Int) (w:World) (h:RdT w Q L ls) (hl:ls[i]?=some l) (hL:L≤1000000) :
 Calls prog 153 #[.agg #[.slice Q L cq],.int .i64 ((i:Int)+1)] w fun e w'=>∃ A n c,e=.returned (.slice A n c)∧RdI w A n l∧n≤c∧c≤9223372036854775807∧Below w.heap.size w w':=by
 have hi:i<L:=by rw [←h.1];exact (Zs hl).1
 obtain ⟨b,o,A,n,c,l',rfl,hl',hc,hr,q1,q2⟩:=h.at_ hi;rw [hl] at hl'
 cases hl'
 have HR:=Zh hr;have i1:(0:Int)≤(i:Int):=by omega
 have i2:(i:Int)<(L:Int):=by omega
 have i3:¬((i:Int)+1<1):=by omega
 have i4:¬((i:Int)+1 > (L:Int)):=by omega
 have i5:(i:Int)+1-1=(i:Int):=by omega
 have hca:=fun ob=>Zc (show Below w.heap.size w (w.alloc ob) from Qae) (Zn _) hc
 clear h hl hr hc
 go_enter func153,ntmps153
 go_wp2
 go_ret
 exact ⟨_,_,_,rfl,HR.out,q1,q2,Qae⟩
theorem row_ok (Q:Option Addr)(L cq i:Nat) (ls:List (List Int)) (l:List Int) (w:World) (h:RdT w Q L ls) (hl:ls[i]?=some l) (hL:L≤1000000) :
 Calls prog 154 #[.agg #[.slice Q L cq],.int .i64 ((i:Int)+1)] w fun e w'=>∃ A n c,e=.returned (.slice A n c)∧RdI w A n l∧n≤c∧c≤9223372036854775807∧Below w.heap.size w w':=by
 have hi:i<L:=by rw [←h.1];exact (Zs hl).1
 obtain ⟨b,o,A,n,c,l',rfl,hl',hc,hr,q1,q2⟩:=h.at_ hi;rw [hl] at hl'
 cases hl'
 have HR:=Zh hr;have i1:(0:Int)≤(i:Int):=by omega
 have i2:(i:Int)<(L:Int):=by omega
 have i3:¬((i:Int)+1<1):=by omega
 have i4:¬((i:Int)+1 > (L:Int)):=by omega
 have i5:(i:Int)+1-1=(i:Int):=by omega
 have hca:=fun ob=>Zc (show Below w.heap.size w (w.alloc ob) from Qae) (Zn _) hc
 clear h hl hr hc
 go_enter func154,ntmps154
 go_wp2
 go_ret
 exact ⟨_,_,_,rfl,HR.out,q1,q2,Qae⟩
theorem Qfn {l:List Int}{k:Nat}{x:Int} (h:l[k]?=some x):Qam (l.take (k+1))=max (Qam (l.take k)) (x+1):=by
 rw [List.take_succ_eq_append_getElem (Zs h).1,(Zs h).2,Qgx]
set_option maxHeartbeats 1000000 in
theorem count_ok (Q:Option Addr)(L cq i:Nat) (ls:List (List Int)) (l:List Int) (w:World) (h:RdT w Q L ls) (hl:ls[i]?=some l) (hL:L≤1000000) (hb:∀ x∈l,0≤x∧x≤1000000) :
 Calls prog 115 #[.agg #[.slice Q L cq],.int .i64 ((i:Int)+1)] w fun e w'=>e=.returned (.int .i64 (Qam l))∧Below w.heap.size w w':=by
 have HN:=Zh (show ∀ V,Below w.heap.size w V→Calls prog 153 #[.agg #[.slice Q L cq],.int .i64 ((i:Int)+1)] V fun e w'=>∃ A n c,e=.returned (.slice A n c)∧RdI V A n l∧n≤c∧c≤9223372036854775807∧Below V.heap.size V w' from fun V hV=>Qht Q L cq i ls l V (h.below hV) hl hL)
 have HB:=Zh hb;clear h hl hb
 go_enter func115,ntmps115
 go_wp2_with fail
 (refine Qac ?_;intro w1 hw1)
 have hb1:Below w.heap.size w w1:=by rw [hw1];exact Qae
 clear hw1;with_reducible refine (HN.out w1 hb1).mono ?_
 rintro e w2 ⟨A,n,c,rfl,hr,q1,q2,hb2⟩;have hr2:=hr.below hb2;have HLEN:=Zh hr.1;have hbw2:=Zb hb1 hb2;clear hr
 go_wp2_with fail
 go_loop [5,12] (fun m q=>∃ k:Nat,k≤n∧q=.int .i64 k∧m=.int .i64 (Qam (l.take k))) (fun _ q=>n-(intOf q).toNat)
 case atStart=>exact ⟨0,Nat.zero_le _,rfl,rfl⟩
 case round =>
  obtain ⟨k,hk,rfl,rfl⟩:=hrel
  by_cases hlt:k<n
  · obtain ⟨b,o,x,rfl,hx,hc⟩:=hr2.at_ hlt
    have hxb:=HB.out x (Zm hx);have HNX:=Zh (Qfn hx);have i1:(0:Int)≤(k:Int):=by omega
    have i2:(k:Int)<(n:Int):=by omega
    clear hx;generalize Qam (l.take k)=m at *
    by_cases hge:x ≥ m
    · go_wp2_with fail
      go_round
      case rel=>exact ⟨k+1,by omega,by go_num,by rw [HNX.out,show max m (x+1)=x+1 by omega]⟩
      case measure=>simp [intOf];omega
    · go_wp2_with fail
      go_round
      case rel=>exact ⟨k+1,by omega,by go_num,by rw [HNX.out,show max m (x+1)=m by omega]⟩
      case measure=>simp [intOf];omega
  · obtain rfl:n=k:=by omega
    have HE:=Zh (show Qam (l.take n)=Qam l by rw [List.take_of_length_le (by rw [HLEN.out];exact Zn _)])
    go_wp2
    go_ret
    exact ⟨Qbs HE.out,hbw2⟩
/-! Rows of Qcf, each of the call's own, as the cells of one block. -/
def IkG (t:TypeId)(W:World)(B g n:Nat) (ls:List (List Int)):Prop :=
 ls.length=n∧g<B∧∃ cs,Blk W g t cs∧cs.size=n∧(∀ (v:Nat) (l:List Int),ls[v]?=some l→∃ A c,cs[v]?=some (.slice A l.length c)∧Own W B 3 1 A l.length c (Qad l)) ∧
  ∀ (v v':Nat) A m c A' m' c',v≠v'→cs[v]?=some (.slice A m c)→cs[v']?=some (.slice A' m' c')→Dj A A'
theorem IkG.start {t:TypeId}{W:World}{B g n:Nat}(hg:g<B) (h:Blk W g t (Qba (.slice none 0 0) n)):IkG t W B g n (List.replicate n []):=by
 refine ⟨by simp,hg,_,h,by simp [Qba],fun v l hl=>?_,fun v v' A m c A' m' c' _ h1 _=>?_⟩
 · obtain ⟨hv,e⟩:=Zs hl
   simp at e;subst e;refine ⟨none,0,?_,Own.nil _ _ _ _⟩;simp at hv;simp [Qba,hv]
 · have e:=(Array.getElem?_eq_some_iff.1 h1).2
   simp [Qba] at e;obtain ⟨rfl,_,_⟩:=e;exact .inl rfl
theorem IkG.below {t:TypeId}{W W':World}{B g n:Nat} {ls:List (List Int)} (h:IkG t W B g n ls) (hb:Below W.heap.size W W'):IkG t W' B g n ls:=by
 obtain ⟨h1,h2,cs,h3,h4,h5,h6⟩:=h
 exact ⟨h1,h2,cs,h3.below hb h3.lt,h4,fun v l hl=>by
  obtain ⟨A,c,k1,k2⟩:=h5 v l hl;exact ⟨A,c,k1,k2.below hb⟩,h6⟩
theorem IkG.row {t:TypeId}{W:World}{B g n u:Nat} {ls:List (List Int)} (h:IkG t W B g n ls) (hu:u<n):∃ A c l,ls[u]?=some l∧W.cell? ⟨g,u,none⟩=some (.slice A l.length c)∧W.frozen? ⟨g,u,none⟩=false∧Own W B 3 1 A l.length c (Qad l):=by
 obtain ⟨h1,h2,cs,h3,h4,h5,h6⟩:=h;have hl:ls[u]?=some ls[u]:=Zg (by omega);obtain ⟨A,c,k1,k2⟩:=h5 u _ hl;exact ⟨A,c,_,hl,by rw [h3.cell];exact k1,h3.frozen u,k2⟩
theorem IkG.lt {t:TypeId}{W:World}{B g n:Nat} {ls:List (List Int)} (h:IkG t W B g n ls):g<W.heap.size:=by
 obtain ⟨_,_,cs,h3,_⟩:=h;exact h3.lt
theorem IkG.push {t:TypeId}{W w':World}{B g n u c c':Nat}{A A':Option Addr} {ls:List (List Int)} {l:List Int} {k:Int} (h:IkG t W B g n ls) (hl:ls[u]?=some l) (hc:W.cell? ⟨g,u,none⟩=some (.slice A l.length c))
 (hown:Own w' B 3 1 A' (l.length+1) c' (Qad l ++Qad [k])) (hg:W.grownBy w' (Qab A)) (hat:Qab A'=Qab A∨Qab A'=some W.heap.size) :
 IkG t (w'.setCell ⟨g,u,none⟩ (.slice A' (l.length+1) c')) B g n (ls.set u (l ++[k])):=by
 obtain ⟨h1,h2,cs,h3,h4,h5,h6⟩:=h;have hu:=(Zs hl).1;have hcs:cs[u]?=some (.slice A l.length c):=by rw [←h3.cell];exact hc
 obtain ⟨A0,c0,k1,hown0⟩:=h5 u l hl;rw [hcs] at k1
 cases k1
 have hgA:Qab A≠some g:=hown0.ne h2;have hgA':Qab A'≠some g:=hown.ne h2;refine ⟨by rw [List.length_set];exact h1,h2,_,(h3.grown hg hgA).set_ u (.slice A' (l.length+1) c'),by simpa using h4,fun v l' hl'=>?_,fun v v' X m d X' m' d' hne e1 e2=>?_⟩
 · by_cases e:u=v
   · subst e
     rw [List.getElem?_set_self hu] at hl'
     cases hl'
     refine ⟨A',c',by rw [Array.getElem?_setIfInBounds_self_of_lt (by omega),List.length_append];rfl,?_⟩;rw [List.length_append,Qbz];exact hown.far (Qaa _ _ _ _) (.inr hgA')
   · rw [List.getElem?_set_ne e] at hl'
     obtain ⟨X,d,k1,k2⟩:=h5 v l' hl';refine ⟨X,d,by rw [Array.getElem?_setIfInBounds_ne e];exact k1,(k2.far hg (h6 u v _ _ _ _ _ _ e hcs k1).far).far (Qaa _ _ _ _) (.inr (k2.ne h2))⟩
 · have old:∀ v X m d,u≠v→cs[v]?=some (.slice X m d)→Dj A' X:=fun v X m d hv e3=>by
    have hv2:=(Array.getElem?_eq_some_iff.1 e3).1;obtain ⟨X0,d0,k1,k2⟩:=h5 v _ (Zg (show v<ls.length by omega))
    rw [e3] at k1
    cases k1
    exact (h6 u v _ _ _ _ _ _ hv hcs e3).next k2 hat
   by_cases a1:u=v
   · subst a1
     rw [Array.getElem?_setIfInBounds_self_of_lt (by omega)] at e1
     cases e1
     rw [Array.getElem?_setIfInBounds_ne hne] at e2;exact old v' X' m' d' hne e2
   · rw [Array.getElem?_setIfInBounds_ne a1] at e1
     by_cases a2:u=v'
     · subst a2
       rw [Array.getElem?_setIfInBounds_self_of_lt (by omega)] at e2
       cases e2
       exact (old v X m d a1 e1).symm
     · rw [Array.getElem?_setIfInBounds_ne a2] at e2
       exact h6 v v' X m d X' m' d' hne e1 e2
theorem IkG.cellG {t:TypeId}{W w':World}{B g n u:Nat}{r:Option Nat} {ls:List (List Int)} (h:IkG t W B g n ls) (hu:u<n) (hg:W.grownBy w' r) (hr:r≠some g):∃ v,w'.cell? ⟨g,u,none⟩=some v∧w'.frozen? ⟨g,u,none⟩=false:=by
 obtain ⟨h1,h2,cs,h3,h4,h5,h6⟩:=h;have hb:=h3.grown hg hr;exact ⟨_,by rw [hb.cell];exact Array.getElem?_eq_getElem (by omega),hb.frozen u⟩
/-! Arcs of a row that are marked. -/
def Qpd (P:Tri→Bool)(l:List Tri):List Int:=(l.zipIdx.filter (fun p=>P p.1)).map (fun p=>(p.2:Int))
theorem Qug (P:Tri→Bool)(l:List Tri)(a:Tri):Qpd P (l ++[a])=Qpd P l ++(if P a then [(l.length:Int)] else []):=by
 unfold Qpd;rw [List.zipIdx_append,List.filter_append,List.map_append]
 congr 1
 cases h:P a <;> simp [h]
theorem Qwl {P:Tri→Bool}{l:List Tri}{a:Tri}{k:Nat} (h:l[k]?=some a):Qpd P (l.take (k+1))=Qpd P (l.take k) ++(if P a then [(k:Int)] else []):=by
 have hlt:=(Zs h).1;rw [List.take_succ_eq_append_getElem hlt,(Zs h).2,Qug,List.length_take,Nat.min_eq_left (by omega)]
theorem Qlp (P:Tri→Bool)(l:List Tri):(Qpd P l).length≤l.length:=by
 unfold Qpd;rw [List.length_map];refine Nat.le_trans (List.length_filter_le _ _) ?_;simp
theorem mem_arcP {P:Tri→Bool}{l:List Tri}{x:Int}:x∈Qpd P l↔∃ (i:Nat) (a:Tri),x=(i:Int)∧l[i]?=some a∧P a=true:=by
 unfold Qpd;simp only [List.mem_map,List.mem_filter]
 constructor
 · rintro ⟨⟨a,i⟩,⟨h1,h2⟩,rfl⟩
   exact ⟨i,a,rfl,List.mem_zipIdx_iff_getElem?.1 h1,h2⟩
 · rintro ⟨i,a,rfl,h1,h2⟩
   exact ⟨(a,i),⟨List.mem_zipIdx_iff_getElem?.2 h1,h2⟩,rfl⟩
theorem Qjg (P:Tri→Bool):∀ l:List Tri,(Qpd P l).Pairwise (·<·):=by
 intro l;unfold Qpd;rw [List.pairwise_map];refine List.Pairwise.filter _ ?_;rw [List.pairwise_iff_getElem];intro i j hi hj hij;simp;exact hij
def Qaf (l:List Int)(v:Int):Int:=l.getD v.toNat 0
theorem Qbr {l:List Int}{v:Nat}{p:Int} (h:l[v]?=some p):Qaf l (v:Int)=p:=by
 unfold Qaf;rw [Int.toNat_natCast,List.getD_eq_getElem?_getD,h]
 rfl
def Qga (l:List Int)(a:Tri):Bool:=Qaf l a.1 != Qaf l a.2.1
def Qax (ar:List Tri)(l:List Int):List Int:=Qpd (Qga l) ar
def toC (ar:List Tri)(l:List Int)(a:Int):Int:=Qaf l (ar.getD a.toNat (0,0,0)).2.1
def frC (ar:List Tri)(l:List Int)(a:Int):Int:=Qaf l (ar.getD a.toNat (0,0,0)).1
theorem Qpm {ar:List Tri}{l:List Int}{a:Nat}{x:Tri} (h:ar[a]?=some x):toC ar l (a:Int)=Qaf l x.2.1:=by
 unfold toC;rw [Int.toNat_natCast,List.getD_eq_getElem?_getD,h]
 rfl
theorem Qos {ar:List Tri}{l:List Int}{a:Nat}{x:Tri} (h:ar[a]?=some x):frC ar l (a:Int)=Qaf l x.1:=by
 unfold frC;rw [Int.toNat_natCast,List.getD_eq_getElem?_getD,h]
 rfl
def Qeo (t f:Int→Int)(X:List Int)(n:Nat):List (List Int):=(List.range (n*2)).map (fun i:Nat=>if i % 2=0 then X.filter (fun a=>t a == ((i / 2:Nat):Int)) else X.filter (fun a=>f a == ((i / 2:Nat):Int)))
theorem Qfj (t f:Int→Int)(X:List Int)(n:Nat):(Qeo t f X n).length=n*2:=by simp [Qeo]
theorem Qlv {t f:Int→Int}{X:List Int}{n c:Nat}(h:c<n):(Qeo t f X n)[c*2]?=some (X.filter (fun a=>t a == (c:Int))):=by
 unfold Qeo;rw [List.getElem?_map,List.getElem?_range (by omega)];simp
theorem Qjp {t f:Int→Int}{X:List Int}{n c:Nat}(h:c<n):(Qeo t f X n)[c*2+1]?=some (X.filter (fun a=>f a == (c:Int))):=by
 unfold Qeo;rw [List.getElem?_map,List.getElem?_range (by omega),Option.map_some,if_neg (by omega),show (c*2+1) / 2=c by omega]
theorem Qvj (t f:Int→Int)(n:Nat):Qeo t f [] n=List.replicate (n*2) []:=by
 apply List.ext_getElem?
 intro i
 rcases Nat.lt_or_ge i (n*2) with h|h
 · unfold Qeo
   rw [List.getElem?_map,List.getElem?_range h];simp [h]
 · rw [List.getElem?_eq_none (by rw [Qfj];exact h),List.getElem?_eq_none (by simpa using h)]
theorem Qsn {t f:Int→Int}{X:List Int}{n p q:Nat}{a:Int} (hp:t a=(p:Int)) (hq:f a=(q:Int)) (h1:p<n) (h2:q<n) :
 ((Qeo t f X n).set (p*2) (X.filter (fun a=>t a == (p:Int)) ++[a])).set (q*2+1) (X.filter (fun a=>f a == (q:Int)) ++[a])=Qeo t f (X ++[a]) n:=by
 apply List.ext_getElem?
 intro i
 rcases Nat.lt_or_ge i (n*2) with hi|hi
 · have hl:∀ Y,(Qeo t f Y n)[i]?=some (if i % 2=0 then Y.filter (fun a=>t a == ((i / 2:Nat):Int)) else Y.filter (fun a=>f a == ((i / 2:Nat):Int))):=fun Y=>by
    unfold Qeo;rw [List.getElem?_map,List.getElem?_range hi]
    rfl
   by_cases e1:q*2+1=i
   · subst e1
     rw [List.getElem?_set_self (by rw [List.length_set,Qfj];exact hi),Qjp h2,List.filter_append];simp [hq]
   · rw [List.getElem?_set_ne e1]
     by_cases e2:p*2=i
     · subst e2
       rw [List.getElem?_set_self (by rw [Qfj];exact hi),Qlv h1,List.filter_append];simp [hp]
     · rw [List.getElem?_set_ne e2,hl,hl]
       congr 1
       rcases Nat.mod_two_eq_zero_or_one i with h0|h0
       · rw [if_pos h0,if_pos h0,List.filter_append]
         simp [hp];omega
       · rw [if_neg (by omega),if_neg (by omega),List.filter_append]
         simp [hq];omega
 · rw [List.getElem?_eq_none (by rw [List.length_set,List.length_set,Qfj];exact hi),List.getElem?_eq_none (by rw [Qfj];exact hi)]
abbrev Qal:=List Int×List Int
def RdC (w:World)(A:Option Addr)(n:Nat)(row:List Qal):Prop :=
 row.length=n∧∀ c x,row[c]?=some x→∃ b o A1 n1 c1 A2 n2 c2,A=some ⟨b,o,none⟩∧w.cell? ⟨b,o+c*2,none⟩=some (.slice A1 n1 c1)∧RdI w A1 n1 x.1∧w.cell? ⟨b,o+c*2+1,none⟩=some (.slice A2 n2 c2)∧RdI w A2 n2 x.2∧(n1≤c1∧c1≤9223372036854775807)∧n2≤c2∧c2≤9223372036854775807
theorem RdC.le {w w':World}{A:Option Addr}{n:Nat}{row:List Qal}(h:RdC w A n row)(hl:Le w w'):RdC w' A n row :=
 ⟨h.1,fun c x hx=>by
  obtain ⟨b,o,A1,n1,c1,A2,n2,c2,e,h1,h2,h3,h4,h5⟩:=h.2 c x hx;exact ⟨b,o,A1,n1,c1,A2,n2,c2,e,hl _ _ h1,h2.le hl,hl _ _ h3,h4.le hl,h5⟩⟩
theorem RdC.at_ {w:World}{A:Option Addr}{n c:Nat}{row:List Qal}(h:RdC w A n row)(hc:c<n):∃ x b o A1 n1 c1 A2 n2 c2,row[c]?=some x∧A=some ⟨b,o,none⟩∧w.cell? ⟨b,o+c*2,none⟩=some (.slice A1 n1 c1)∧RdI w A1 n1 x.1∧w.cell? ⟨b,o+c*2+1,none⟩=some (.slice A2 n2 c2)∧RdI w A2 n2 x.2∧(n1≤c1∧c1≤9223372036854775807)∧n2≤c2∧c2≤9223372036854775807:=by
 have hl:c<row.length:=by rw [h.1];exact hc
 obtain ⟨b,o,A1,n1,c1,A2,n2,c2,h1⟩:=h.2 c _ (Zg hl);exact ⟨_,b,o,A1,n1,c1,A2,n2,c2,Zg hl,h1⟩
def RdG (w:World)(A:Option Addr)(n:Nat) (gs:List (List Qal)):Prop :=
 gs.length=n∧∀ i row,gs[i]?=some row→∃ b o A' n' c',A=some ⟨b,o,none⟩∧w.cell? ⟨b,o+i,none⟩=some (.slice A' n' c')∧RdC w A' n' row∧n'≤c'∧c'≤9223372036854775807
theorem RdG.le {w w':World}{A:Option Addr}{n:Nat} {gs:List (List Qal)} (h:RdG w A n gs) (hl:Le w w'):RdG w' A n gs :=
 ⟨h.1,fun i row hx=>by
  obtain ⟨b,o,A',n',c',e,h1,h2,h3⟩:=h.2 i row hx;exact ⟨b,o,A',n',c',e,hl _ _ h1,h2.le hl,h3⟩⟩
theorem RdG.at_ {w:World}{A:Option Addr}{n i:Nat} {gs:List (List Qal)} (h:RdG w A n gs) (hi:i<n):∃ row b o A' n' c',gs[i]?=some row∧A=some ⟨b,o,none⟩∧w.cell? ⟨b,o+i,none⟩=some (.slice A' n' c')∧RdC w A' n' row∧n'≤c'∧c'≤9223372036854775807:=by
 have hl:i<gs.length:=by rw [h.1];exact hi
 obtain ⟨b,o,A',n',c',h1⟩:=h.2 i _ (Zg hl);exact ⟨_,b,o,A',n',c',Zg hl,h1⟩
def gateRow (ar:List Tri)(l:List Int):List Qal:=(List.range (Qam l).toNat).map (fun c:Nat=>((Qax ar l).filter (fun a=>toC ar l a == (c:Int)),(Qax ar l).filter (fun a=>frC ar l a == (c:Int))))
theorem Qan (ar:List Tri)(l:List Int):(gateRow ar l).length=(Qam l).toNat:=by simp [gateRow]
theorem Qce {ar:List Tri}{l:List Int}{c:Nat} (h:c<(Qam l).toNat):(gateRow ar l)[c]?=some ((Qax ar l).filter (fun a=>toC ar l a == (c:Int)),(Qax ar l).filter (fun a=>frC ar l a == (c:Int))):=by
 unfold gateRow;rw [List.getElem?_map,List.getElem?_range h]
 rfl
def gatesOf (ar:List Tri) (ls:List (List Int)):List (List Qal):=ls.map (gateRow ar)
set_option maxHeartbeats 1000000 in
theorem Qtm (g a:Nat)(N:Qaj)(A:Option Addr)(n c u v:Nat)(z p q:Int)(l:List Int)(w:World)(h:Qgk w g N)(hr:RdI w A n l) (hx:N.ar[a]?=some ((u:Int),(v:Int),z)) (hu:u<n) (hv:v<n) (hp:l[u]?=some p) (hq:l[v]?=some q) :
 Calls prog 155 #[.pointer (some ⟨g,0,none⟩),.slice A n c,.int .i64 a] w fun e w'=>e=.returned (.tuple #[.int .i64 p,.int .i64 q,.bool true])∧∃ k,w'=w.drewN k:=by
 have HF:=Zh (Qgz g a N _ w h hx);have HT:=Zh (Qkp g a N _ w h hx);obtain ⟨b,o,p',rfl,hp',cp⟩:=hr.at_ hu;rw [hp] at hp'
 cases hp'
 obtain ⟨b',o',q',e,hq',cq⟩:=hr.at_ hv;rw [hq] at hq'
 cases hq'
 cases e
 have i1:(0:Int)≤(u:Int):=by omega
 have i2:(u:Int)<(n:Int):=by omega
 have i3:(0:Int)≤(v:Int):=by omega
 have i4:(v:Int)<(n:Int):=by omega
 clear h hr hx hp hq
 go_enter func155,ntmps155
 go_wp2_with fail
 with_reducible refine HF.out.mono ?_
 rintro e w' ⟨rfl,rfl⟩
 go_wp2_with fail
 with_reducible refine HT.out.mono ?_
 rintro e w' ⟨rfl,rfl⟩
 go_wp2_with fail
 go_quiet (fail)
 go_wp2_with fail
 go_ret3
 exact ⟨rfl,_,rfl⟩
set_option maxHeartbeats 1000000 in
theorem cross_ok (g:Nat)(N:Qaj)(Q:Option Addr)(L cq i n:Nat) (ls:List (List Int)) (l:List Int) (w:World) (h:Qgk w g N) (hN:Qas N) (hq:RdT w Q L ls) (hl:ls[i]?=some l) (hL:L≤1000000) (hlo:Qen n l) (hn:N.vs.length=n) :
 Calls prog 116 #[.pointer (some ⟨g,0,none⟩),.agg #[.slice Q L cq],.int .i64 ((i:Int)+1)] w fun e w'=>∃ A c,e=.returned (.slice A (Qax N.ar l).length c)∧RdI w' A (Qax N.ar l).length (Qax N.ar l)∧(∀ b,Qab A=some b→w.heap.size≤b∧b<w'.heap.size)∧Below w.heap.size w w':=by
 have HG:=Zh h;have HN:=Zh hN;have hn4:n≤4096:=by rw [←hn];exact hN.lv
 have hm:N.ar.length≤16384:=hN.la;have HR:=Zh (show ∀ V,Below w.heap.size w V→Calls prog 154 #[.agg #[.slice Q L cq],.int .i64 ((i:Int)+1)] V fun e w'=>∃ A n c,e=.returned (.slice A n c)∧RdI V A n l∧n≤c∧c≤9223372036854775807∧Below V.heap.size V w' from fun V hV=>row_ok Q L cq i ls l V (hq.below hV) hl hL)
 have HLO:=Zh hlo;have HVN:=Zh hn;clear h hN hq hl hlo hn
 go_enter func116,ntmps116
 go_wp2_with fail
 (refine Qac ?_;intro w1 hw1)
 have hb1:Below w.heap.size w w1:=by rw [hw1];exact Qae
 clear hw1;with_reducible refine (HR.out w1 hb1).mono ?_
 rintro e w2 ⟨A,n',c,rfl,hr,q1,q2,hb2⟩;obtain rfl:n=n':=by rw [←hr.1];exact HLO.out.len.symm
 have hr2:=hr.below hb2;have hbw2:=Zb hb1 hb2;have hz0:=hbw2.size;clear hr hb2 hb1
 go_wp2_with fail
 with_reducible refine (Qgu g N w2 (HG.out.below hbw2)).mono ?_
 rintro e w' ⟨rfl,rfl⟩
 go_wp2_with fail
 generalize hM:N.ar.length=M at *;have HM:=Zh hM;clear hM
 go_loopw [8,18] (fun x q W=>Below w.heap.size w W∧w2.heap.size≤W.heap.size∧Below w2.heap.size w2 W∧∃ (j:Nat) (X:Option Addr) (k cx:Nat),j≤M∧q=.int .i64 j∧x=.slice X k cx∧k≤j∧Own W w2.heap.size 3 1 X k cx (Qad (Qpd (Qga l) (N.ar.take j)))) (fun _ q _=>M-(intOf q).toNat)
 case atStart=>exact ⟨hbw2,Zn _,Zr _ _,0,none,0,0,Nat.zero_le _,rfl,rfl,Zn _,Own.nil _ _ _ _⟩
 case round =>
  clear hbw2;obtain ⟨hbl,hsz,hb2r,j,X,k,cx,hj,rfl,rfl,hkj,hown⟩:=hrel
  by_cases hlt:j<M
  · obtain ⟨⟨fx,tx,zx⟩,hx⟩:∃ x,N.ar[j]?=some x:=⟨_,Zg (by rw [HM.out];exact hlt)⟩
    have hok:=HN.out.arcs _ (Zm hx);have f0:=hok.f0;have f1:=hok.f1;have g0:=hok.g0;have g1:=hok.g1;simp only at f0 f1 g0 g1;rw [HVN.out] at f1 g1;obtain ⟨u,rfl⟩:∃ u:Nat,fx=u:=⟨fx.toNat,by omega⟩;obtain ⟨v,rfl⟩:∃ v:Nat,tx=v:=⟨tx.toNat,by omega⟩;have hu:u<n:=by omega
    have hv:v<n:=by omega
    obtain ⟨p,hp⟩:∃ p,l[u]?=some p:=⟨_,Zg (by rw [HLO.out.len];exact hu)⟩;obtain ⟨q,hq⟩:∃ q,l[v]?=some q:=⟨_,Zg (by rw [HLO.out.len];exact hv)⟩;have HE:=Zh (Qtm g j N A n c u v zx p q l wr (HG.out.below hbl) (hr2.below hb2r) hx hu hv hp hq);have HNX:=Zh (Qwl (P:=Qga l) hx);have hcb:Qga l ((u:Int),(v:Int),zx)=(p != q):=by unfold Qga;simp only;rw [Qbr hp,Qbr hq]
    rw [hcb] at HNX;clear hx hok hcb hp hq
    go_wp2_with fail
    with_reducible refine HE.out.mono ?_
    rintro e w4 ⟨rfl,nq,hw4⟩;have hbl4:Below w.heap.size w w4:=by rw [hw4];exact Qap hbl _
    have hb24:Below w2.heap.size w2 w4:=by rw [hw4];exact Qap hb2r _
    have hsz4:w2.heap.size≤w4.heap.size:=by rw [hw4];exact hsz
    have hown4:Own w4 w2.heap.size 3 1 X k cx (Qad (Qpd (Qga l) (N.ar.take j))):=by rw [hw4];exact hown
    clear hw4 hbl hb2r hsz hown HE
    by_cases hpq:p=q
    · have e1:(p != q)=false:=by simpa using hpq
      have e2:(p == q)=true:=by simpa using hpq
      rw [e1] at HNX;clear hpq
      go_wp2_with fail
      go_roundw
      case rel=>exact ⟨hbl4,hsz4,hb24,j+1,X,k,cx,by omega,by go_num,rfl,by omega,by rw [HNX.out];simpa using hown4⟩
      case measure=>simp [intOf];omega
    · have e1:(p != q)=true:=by simpa using hpq
      have e2:(p == q)=false:=by simpa using hpq
      rw [e1] at HNX;clear hpq;have hlt4:Below w4.heap.size w4 (w4.alloc (.cells #[.int .i64 (j:Int)] 3)):=Qae;have hownA:=hown4.below hlt4;have hrA:Rds (w4.alloc (.cells #[.int .i64 (j:Int)] 3)) 1 (some ⟨w4.heap.size,0,none⟩) 1 (Qad [(j:Int)]):=(Blk.new w4 3 (Qcf [(j:Int)])).rds rfl;have hblA:=Zb hbl4 hlt4;have hb2A:=Zb hb24 hlt4
      go_wp2_with (at_builtin;with_reducible refine Qat rfl (.tmp 35) (.tmp 37) 93 rfl 3 _ 1 8 Qay underlying93 rfl (by omega) rfl rfl hownA hrA (Qak _) (by omega) (by omega) (by simp;omega) ?_)
      intro A' c' w' hown' hg _;have hbl5:Below w.heap.size w w':=Bel.grownOwn hblA hg (hownA.mono (by omega)) (by simp;omega);have hb25:Below w2.heap.size w2 w':=Bel.grownOwn hb2A hg hownA (by simp;omega);have hsz5:w2.heap.size≤w'.heap.size:=hb25.size;have HO:=Zh hown';clear hown' hg hownA hrA hblA hb2A hlt4 hown4 hbl4 hb24 hsz4
      go_wp2
      go_roundw
      case rel=>exact ⟨hbl5,hsz5,hb25,j+1,A',k+1,c',by omega,by go_num,rfl,by omega,by rw [HNX.out,if_pos trivial,Qbz];exact HO.out⟩
      case measure=>simp [intOf];omega
  · obtain rfl:M=j:=by omega
    rw [List.take_of_length_le (by rw [HM.out];exact Zn _)] at hown;have HO:=Zh hown;have hk:k=(Qax N.ar l).length:=by have:=hown.1;rw [Nat.mul_one] at this;rw [←this];simp [Qad,Qax]
    have HK:=Zh hk;clear hown hk
    go_wp2
    go_ret
    exact ⟨X,cx,by rw [←HK.out];rfl,by rw [←HK.out];exact HO.out.rds.rdI,fun b hb=>by have:=HO.out.lt b hb;omega,hbl⟩
def plI (l:List Int)(v:Int):Int:=match l.findIdx? (· == v) with|some i=>(i:Int)|none=>-1
theorem Qwh {l:List Int}{v:Int}{k:Nat} (h:l[k]?=some v) (hj:∀ j x,j<k→l[j]?=some x→x≠v):plI l v=k:=by
 unfold plI;have hk:=(Zs h).1
 have:l.findIdx? (· == v)=some k:=by
  rw [List.findIdx?_eq_some_iff_getElem];refine ⟨hk,by simpa using (Zs h).2,fun j hjk=>?_⟩
  simpa using hj j _ hjk (Zg (by omega))
 rw [this]
theorem Qcx {l:List Int}{v:Int}(h:v ∉ l):plI l v = -1:=by
 unfold plI
 have:l.findIdx? (· == v)=none:=by
  rw [List.findIdx?_eq_none_iff];intro x hx;have:x≠v:=fun e=>h (e▸hx)
  simpa using this
 rw [this]
theorem Qlo {l:List Int}{v:Int}(h:v∈l):∃ k:Nat,plI l v=k∧l[k]?=some v:=by
 obtain ⟨k,hk⟩:=List.getElem?_of_mem h;unfold plI
 cases e:l.findIdx? (· == v) with
 | none =>
  rw [List.findIdx?_eq_none_iff] at e;have:=e v h;simp at this
 | some i =>
  rw [List.findIdx?_eq_some_iff_getElem] at e;obtain ⟨hi,h1,_⟩:=e;refine ⟨i,rfl,?_⟩;rw [Zg hi]
  simpa using h1
theorem plI_nn {l:List Int}{v:Int}:0≤plI l v↔v∈l:=by
 constructor
 · intro h
   by_cases hm:v∈l
   · exact hm
   · rw [Qcx hm] at h
     omega
 · intro h
   obtain ⟨k,e,_⟩:=Qlo h;omega
set_option maxHeartbeats 400000 in
theorem Qtt (A:Option Addr)(n c:Nat)(l:List Int)(v:Int)(w:World)(h:RdI w A n l)(hn:n≤1000000000) :
 Calls prog 165 #[.slice A n c,.int .i64 v] w fun e w'=>e=.returned (.int .i64 (plI l v))∧w=w':=by
 have HR:=Zh h;have HL:=Zh h.1;clear h
 go_enter func165,ntmps165
 go_wp2_with fail
 go_loop [8] (fun q=>∃ k:Nat,k≤n∧q=.int .i64 k∧∀ j x,j<k→l[j]?=some x→x≠v) (fun q=>n-(intOf q).toNat)
 case atStart=>exact ⟨0,Nat.zero_le _,rfl,fun _ _ h=>absurd h (Nat.not_lt_zero _)⟩
 case round =>
  obtain ⟨k,hk,rfl,hj⟩:=hrel;have HJ:=Zh hj;clear hj
  by_cases hlt:k<n
  · obtain ⟨b,o,x,rfl,hx,hc⟩:=HR.out.at_ hlt
    have i1:(0:Int)≤(k:Int):=by omega
    have i2:(k:Int)<(n:Int):=by omega
    by_cases e:x=v
    · have HP:=Zh (Qwh (e▸hx) HJ.out)
      have e1:(x == v)=true:=by simpa using e
      have e2:(v == x)=true:=by simpa using e.symm
      clear e hx
      go_wp2_with fail
      go_ret
      exact ⟨Qbs HP.out.symm,rfl⟩
    · have e1:(x == v)=false:=by simpa using e
      have e2:(v == x)=false:=by simpa using (fun h:v=x=>e h.symm)
      have HX:=Zh hx;have HE:=Zh e;clear e hx
      go_wp2_with fail
      go_round
      case rel=>exact ⟨k+1,by omega,by go_num,fun j y hj hy=>by
       by_cases ej:j=k
       · subst ej
         rw [HX.out] at hy
         cases hy
         exact HE.out
       · exact HJ.out j y (by omega) hy⟩
      case measure=>simp [intOf];omega
  · obtain rfl:n=k:=by omega
    have HP:=Zh (Qcx (l:=l) (v:=v) (fun hm=>by
     obtain ⟨j,hj⟩:=List.getElem?_of_mem hm;exact HJ.out j v (by rw [←HL.out];exact (Zs hj).1) hj rfl))
    go_wp2_with fail
    go_ret
    exact ⟨Qbs HP.out.symm,rfl⟩
theorem Qnr (A:Option Addr)(n c:Nat)(l:List Int)(v:Int)(w:World)(h:RdI w A n l)(hn:n≤1000000000) :
 Calls prog 150 #[.slice A n c,.int .i64 v] w fun e w'=>e=.returned (.bool (decide (v∈l)))∧w=w':=by
 have HI:=Zh (Qtt A n c l v w h hn);have HD:=Zh (show decide ((0:Int)≤plI l v)=decide (v∈l) by simp [plI_nn])
 clear h
 go_enter func150,ntmps150
 go_wp2_with fail
 with_reducible refine HI.out.mono ?_
 rintro e w' ⟨rfl,rfl⟩;generalize plI l v=p at *
 go_wp2_with fail
 go_ret
 exact ⟨Qbb (by rw [←HD.out]),rfl⟩
theorem less_any (a b:Int)(w:World):Calls prog 166 #[.int .i64 a,.int .i64 b] w fun e w'=>e=.returned (.bool (decide (a<b)))∧w=w':=by
 go_enter func166,ntmps166
 go_wp2
 go_ret
 exact ⟨Qbb (by simp),rfl⟩
def Qhn (l:List Int):Bool:=decide (l.Pairwise (·≤·))
theorem Qkw {l:List Int} (h:∀ (j:Nat) (x y:Int),l[j]?=some x→l[j+1]?=some y→x≤y):Qhn l=true:=by
 unfold Qhn;rw [decide_eq_true_eq,List.pairwise_iff_getElem];intro i j hi hj hij;obtain ⟨d,rfl⟩:∃ d,j=i+1+d:=⟨j-i-1,by omega⟩;clear hij
 induction d with
 | zero=>exact h i _ _ (Zg hi) (Zg hj)
 | succ d ih =>
  have:=ih (by omega);have:=h (i+1+d) _ _ (Zg (by omega)) (Zg hj);omega
theorem Qqd {l:List Int}{j:Nat}{x y:Int} (h1:l[j]?=some x) (h2:l[j+1]?=some y) (h:y<x):Qhn l=false:=by
 unfold Qhn;rw [decide_eq_false_iff_not,List.pairwise_iff_getElem];intro hp;have:=hp j (j+1) (Zs h1).1 (Zs h2).1 (by omega);rw [(Zs h1).2,(Zs h2).2] at this;omega
set_option maxHeartbeats 1000000 in
theorem Qng (A:Option Addr)(n c:Nat)(l:List Int)(w:World)(h:RdI w A n l)(hn:n≤1000000000) :
 Calls prog 151 #[.slice A n c] w fun e w'=>e=.returned (.bool (Qhn l))∧∃ k,w'=w.drewN k:=by
 have HR:=Zh h;have HL:=Zh h.1;clear h
 go_enter func151,ntmps151
 go_wp2_with fail
 go_loopw [3] (fun q W=>(∃ d,W=w.drewN d)∧∃ k:Int,-1≤k∧k<n∧q=.int .i64 k∧∀ (j:Nat) x y,k≤j→l[j]?=some x→l[j+1]?=some y→x≤y) (fun q _=>(intOf q).toNat)
 case atStart =>
  refine ⟨⟨0,rfl⟩,(n:Int)-1,by omega,by omega,rfl,fun j x y hj _ hy=>?_⟩;have:=(Zs hy).1;rw [HL.out] at this;omega
 case round =>
  obtain ⟨hd,k,hk,hkn,rfl,hj⟩:=hrel;have HW:=Zh hd;have HJ:=Zh hj;clear hj
  by_cases hlt:0<k
  · obtain ⟨m,rfl⟩:∃ m:Nat,k=(m:Int)+1:=⟨(k-1).toNat,by omega⟩
    obtain ⟨b,o,x,rfl,hx,hc⟩:=HR.out.at_ (show m<n by omega)
    obtain ⟨b',o',y,e,hy,hc'⟩:=HR.out.at_ (show m+1<n by omega)
    cases e
    have hc1:wr.cell? ⟨b,o+m,none⟩=some (.int .i64 x):=by obtain ⟨d,rfl⟩:=hd;exact hc
    have hc2:wr.cell? ⟨b,o+(m+1),none⟩=some (.int .i64 y):=by obtain ⟨d,rfl⟩:=hd;exact hc'
    have HLS:=Zh (fun V=>less_any y x V);have i1:(0:Int)≤(m:Int):=by omega
    have i2:(m:Int)<(n:Int):=by omega
    have i3:(m:Int)+1<(n:Int):=by omega
    have i4:(0:Int)≤(m:Int)+1:=by omega
    have i5:(m:Int)+1-1=(m:Int):=by omega
    have i6:((m:Int)+1).toNat=m+1:=by omega
    have HX:=Zh hx;have HY:=Zh hy;clear hx hy hc hc' hd
    by_cases hyx:y<x
    · have e1:decide (y<x)=true:=by simpa using hyx
      have HS:=Zh (Qqd HX.out HY.out hyx)
      go_wp2_with fail
      go_quiet ((go_at_call 166;exact Qfl (HLS.out _)))
      go_wp2_with fail
      go_ret
      refine ⟨Qbb HS.out.symm,?_⟩;obtain ⟨d,e⟩:=HW.out;exact ⟨d+nq,by rw [e,World.drewN_drewN]⟩
    · have e1:decide (y<x)=false:=by simpa using hyx
      have HS:=Zh hyx
      go_wp2_with fail
      go_quiet ((go_at_call 166;exact Qfl (HLS.out _)))
      go_wp2_with fail
      go_roundw
      case rel =>
       obtain ⟨d,e⟩:=HW.out;refine ⟨⟨d+nq,by rw [e,World.drewN_drewN]⟩,(m:Int),by omega,by omega,by first|rfl|go_num,fun j x' y' hj h1 h2=>?_⟩
       by_cases ej:j=m
       · subst ej
         rw [HX.out] at h1;rw [HY.out] at h2
         cases h1
         cases h2
         have:=HS.out;omega
       · exact HJ.out j x' y' (by omega) h1 h2
      case measure=>simp [intOf]
  · have HS:=Zh (Qkw (l:=l) (fun j x y h1 h2=>HJ.out j x y (by omega) h1 h2))
    go_wp2_with fail
    go_ret
    exact ⟨Qbb HS.out.symm,HW.out⟩
end Go.Proofs.YthoagdpakddbdaaGreatDoor
