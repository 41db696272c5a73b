/- For every input PathShut returns true, and its arguments read afterwards as before; package errors' variable errorType tied to the program's text. No condition. -/
/- Parts of the proof: Open, OpN, Laid, YvP. -/
import Derived.Test.YtdheeddnkdhfeaaGreatDoorB26
import Derived.Test.YtdheeddnkdhfeaaGreatDoorRows
import Derived.ProofKit
import Derived.OpenShut
import Derived.Deep.Slices
import Derived.SizedLaws
import Derived.ChangeArms
import Derived.Test.YtdheeddnkdhfeaaGreatDoorTie
import Derived.Test.YtdheeddnkdhfeaaGreatDoorCards
import Derived.Handed
import Derived.ChangeSame
import Derived.ChangeVars
import Derived.JoinedOf
import Derived.LaidLaws
import Derived.LaidHandle
import Derived.SevenTiedAt
namespace Go.Proofs.YtdheeddnkdhfeaaGreatDoor
open Go.ChangeShapes Go.WideShapes Go.ChangeAt Go.RowKit Go.Deep
theorem own_:ownKnob Tryz.prog.godebug=none:=by kernel_rfl
theorem Qsc:laidOutB Tryz.prog=true:=by kernel_rfl
theorem Qvc {α:Type}{p:Nat→α→Prop}:∀ (n:Nat),(∀ i,i<n→∃ a,p i a)→∃ l:List α,l.length=n∧∀ i a,l[i]?=some a→p i a
 | 0,_=>⟨[],rfl,fun i a h=>by simp at h⟩
 | n+1,h=>by
  obtain ⟨l,hl,hp⟩:=Qvc n (fun i hi=>h i (by omega));obtain ⟨a,ha⟩:=h n (by omega);refine ⟨l ++[a],by simp [hl],fun i b hb=>?_⟩
  rcases Nat.lt_or_ge i n with h1|h1
  · rw [Yc (by omega)] at hb;exact hp i b hb
  · rw [Yb (by omega),hl] at hb
    have:i=n:=by
     rcases Nat.lt_or_ge (i-n) 1 with h2|h2
     · omega
     · rw [Yd (by simpa using h2)] at hb;cases hb
    subst this;simp at hb;subst hb;exact ha
section
variable {H:Type} {enc:TypeId×Value→H} {P:Program} {w:World} {base:Nat} {spare:Nat→Bool} {held:Bool}
theorem Qev {α:Type}{t e k:Nat} (ht:P.underlying t=some (.slice e)) (hk:P.cellsOf e=k) (hk0:0<k) (Rel:List Value→α→Prop)
 (hel:∀ (fuel:Nat) (cs:List Value) (x:DataW H×List MemPlace),DataW.trod enc P w base spare held fuel e cs=some x→∃ a,Rel cs a)
 {A:Option Addr} {n c fuel:Nat} {x:DataW H×List MemPlace} (h:DataW.trod enc P w base spare held fuel t [.slice A n c]=some x) :
 ∃ l:List α,l.length=n∧n≤c∧c≤9223372036854775807∧(n=0∨∃ el sp,x.1=.slice el sp∧el.length=n) ∧
  ∀ i a,l[i]?=some a→∃ b o vs,A=some ⟨b,o,none⟩∧Rel vs a∧vs.length=k∧∀ j v,vs[j]?=some v→w.cell? ⟨b,o+i*k+j,none⟩=some v:=by
 rcases open_slice ht h with ⟨h0,_⟩|⟨a,len,cap,m,n',D,Pl,hcs,hb,hl,hm,hmm,hx,hi⟩
 · simp only [List.cons.injEq,Value.slice.injEq,and_true] at h0
   obtain ⟨rfl,rfl,rfl⟩:=h0;exact ⟨[],rfl,Zn _,by omega,.inl rfl,fun i a h=>by simp at h⟩
 · simp only [List.cons.injEq,Value.slice.injEq,and_true] at hcs
   obtain ⟨rfl,rfl,rfl⟩:=hcs;have hlm:n≤m:=by rw [hmm];split <;> omega
   obtain ⟨l,hll,hlp⟩:=Qvc (p:=fun i (y:α)=>∃ vs,Rel vs y∧vs.length=k∧∀ j v,vs[j]?=some v→w.cell? ((a.add (i*k)).add j)=some v) n (fun i hin=>by
    obtain ⟨cs',hc,ht'⟩:=hi i (by omega);rw [hk] at hc;obtain ⟨_,hlen,hat⟩:=World.cells?_some hc;obtain ⟨y,hy⟩:=hel _ _ _ ht';refine ⟨y,cs',hy,hlen,fun j v hv=>?_⟩;have hj:j<k:=by rw [←hlen];exact (Zs hv).1
    rw [hat j hj,hv])
   refine ⟨l,hll,hl,(by unfold maxLen at hm;omega),.inr ⟨_,_,by rw [hx],by simp⟩,fun i y hy=>?_⟩;obtain ⟨vs,h1,h2,h3⟩:=hlp i y hy
   have hspot:a.spot=none:=by
    have h4:=h3 0 vs[0] (Zg (by omega));have h5:=World.cell?_spot h4;unfold Addr.add at h5
    by_cases h6:i*k=0
    · simpa [h6] using h5
    · have hl0:l.length=n:=hll
      have h7:0<n:=by
       have:=(Zs hy).1;omega
      obtain ⟨y0,hy0⟩:∃ y0,l[0]?=some y0:=⟨l[0],Zg (by omega)⟩;obtain ⟨vs0,g1,g2,g3⟩:=hlp 0 y0 hy0;have g4:=World.cell?_spot (g3 0 vs0[0] (Zg (by omega)))
      simpa [Addr.add] using g4
   obtain ⟨b,o,sp⟩:=a;simp only at hspot;subst hspot;refine ⟨b,o,vs,rfl,h1,h2,fun j v hv=>?_⟩;have:=h3 j v hv;unfold Addr.add at this
   by_cases h6:i*k=0
   · by_cases h7:j=0
     · simpa [h6,h7] using this
     · simpa [h6,h7] using this
   · by_cases h7:j=0
     · simpa [h6,h7] using this
     · simpa [h6,h7] using this
theorem rel_int {k:IntKind}{e:Nat} (he:P.underlying e=some (.int k)) (fuel:Nat) (cs:List Value) (x:DataW H×List MemPlace) (h:DataW.trod enc P w base spare held fuel e cs=some x) :
 ∃ n:Int,cs=[.int k n]∧(Lit.int k n).wf=true:=by
 obtain ⟨n,h1,_,h3⟩:=DataW.trod_int he h;exact ⟨n,h1,h3⟩
theorem rel_bool {e:Nat}(he:P.underlying e=some .bool)(fuel:Nat)(cs:List Value)(x:DataW H×List MemPlace)(h:DataW.trod enc P w base spare held fuel e cs=some x) :
 ∃ n:Bool,cs=[.bool n]:=by
 obtain ⟨n,h1,_⟩:=DataW.trod_bool he h;exact ⟨n,h1⟩
theorem open_bools {t e:Nat} (ht:P.underlying t=some (.slice e)) (he:P.underlying e=some .bool) (hc:P.cellsOf e=1)
 {A:Option Addr} {n c fuel:Nat} {x:DataW H×List MemPlace} (h:DataW.trod enc P w base spare held fuel t [.slice A n c]=some x) :
 ∃ l:List Bool,RdB w A n l∧n≤c∧c≤9223372036854775807∧(n=0∨∃ el sp,x.1=.slice el sp∧el.length=n):=by
 obtain ⟨l,hl,hnc,hcm,hsz,hr⟩:=Qev ht hc (by omega) (fun cs (p:Bool)=>cs=[.bool p]) (rel_bool he) h;refine ⟨l,⟨hl,fun i p hp=>?_⟩,hnc,hcm,hsz⟩;obtain ⟨b,o,vs,rfl,rfl,_,hv⟩:=hr i p hp;exact ⟨b,o,rfl,by have:=hv 0 _ rfl;simpa using this⟩
theorem Qle {k:IntKind}{t e:Nat} (ht:P.underlying t=some (.slice e)) (he:P.underlying e=some (.int k)) (hc:P.cellsOf e=1)
 {A:Option Addr} {n c fuel:Nat} {x:DataW H×List MemPlace} (h:DataW.trod enc P w base spare held fuel t [.slice A n c]=some x) :
 ∃ l:List Int,RdK k w A n l∧n≤c∧c≤9223372036854775807∧(n=0∨∃ el sp,x.1=.slice el sp∧el.length=n)∧∀ a∈l,(Lit.int k a).wf=true:=by
 obtain ⟨l,hl,hnc,hcm,hsz,hr⟩:=Qev ht hc (by omega) (fun cs (p:Int)=>cs=[.int k p]∧(Lit.int k p).wf=true) (rel_int he) h;refine ⟨l,⟨hl,fun i p hp=>?_⟩,hnc,hcm,hsz,fun a ha=>?_⟩
 · obtain ⟨b,o,vs,rfl,⟨rfl,_⟩,_,hv⟩:=hr i p hp
   exact ⟨b,o,rfl,by have:=hv 0 _ rfl;simpa using this⟩
 · obtain ⟨i,hi,e1⟩:=List.getElem_of_mem ha
   obtain ⟨b,o,vs,_,⟨_,h2⟩,_,_⟩:=hr i a (by rw [Zg hi,e1]);exact h2
end
theorem list_one {α:Type}:∀ {l:List α},l.length=1→∃ a,l=[a]
 | [a],_=>⟨a,rfl⟩
theorem Qgj {α:Type}:∀ {l:List α},l.length=3→∃ a b c,l=[a,b,c]
 | [a,b,c],_=>⟨a,b,c,rfl⟩
section
variable {H:Type} {enc:TypeId×Value→H} {w:World} {base:Nat} {spare:Nat→Bool} {held:Bool}
theorem Qdr {t e:TypeId} (ht:Tryz.prog.underlying t=some (.slice e)) {fuel:Nat} {cs:List Value} {x:DataW H×List MemPlace} (h:DataW.trod enc Tryz.prog w base spare held fuel t cs=some x):∃ A n c,cs=[.slice A n c]:=by
 rcases open_slice ht h with ⟨h0,_⟩|⟨a,len,cap,m,n',D,Pl,hcs,_⟩
 · exact ⟨_,_,_,h0⟩
 · exact ⟨_,_,_,hcs⟩
theorem rel_row (fuel:Nat)(cs:List Value)(x:DataW H×List MemPlace)(h:DataW.trod enc Tryz.prog w base spare held fuel 61 cs=some x) :
 ∃ l:List Int,∃ A n c,cs=[.slice A n c]∧RdI w A n l∧n≤c∧c≤9223372036854775807:=by
 obtain ⟨A,n,c,rfl⟩:=Qdr Tryz.underlying61 h;obtain ⟨l,h1,h2,h3,_,_⟩:=Qle Tryz.underlying61 Tryz.underlying3 (by kernel_rfl) h;exact ⟨l,A,n,c,rfl,h1,h2,h3⟩
theorem Qyh {cs:List Value}{fuel:Nat}{x:DataW H×List MemPlace}(h:DataW.trod enc Tryz.prog w base spare held fuel 29 cs=some x) :
 ∃ (A:Option Addr) (n c:Nat) (ls:List (List Int)),cs=[.slice A n c]∧RdT w A n ls∧n≤c∧c≤9223372036854775807:=by
 obtain ⟨xs,m,_,_,hcl,hxl,hi⟩:=DataW.trod_struct Tryz.underlying29 h;have hxl':xs.length=1:=hxl;have a0:DataW.trod enc Tryz.prog w base spare held m 27 ((cs.drop 0).take (Tryz.prog.cellsOf 27))=xs[0]?:=hi 0 _ rfl;rw [Zg (by omega)] at a0;obtain ⟨A,n,c,e0⟩:=Qdr Tryz.underlying27 a0;rw [e0] at a0;obtain ⟨l,hl,hnc,hcm,_,hr⟩:=Qev Tryz.underlying27 (k:=1) (by kernel_rfl) (by omega) (fun cs (l:List Int)=>∃ A n c,cs=[.slice A n c]∧RdI w A n l∧n≤c∧c≤9223372036854775807) rel_row a0;rw [show Tryz.prog.cellsOf 29=1 by kernel_rfl] at hcl
 rw [show Tryz.prog.cellsOf 27=1 by kernel_rfl] at e0
 clear a0 hi h;obtain ⟨c0,rfl⟩:=list_one hcl;simp at e0;refine ⟨A,n,c,l,by simp [e0],⟨hl,fun i p hp=>?_⟩,hnc,hcm⟩;obtain ⟨b,o,vs,e,⟨A',n',c',e2,h1,h2,h3⟩,_,hv⟩:=hr i p hp;subst e2;exact ⟨b,o,A',n',c',e,by have:=hv 0 _ rfl;simpa using this,h1,h2,h3⟩
theorem rel_vert (fuel:Nat)(cs:List Value)(x:DataW H×List MemPlace)(h:DataW.trod enc Tryz.prog w base spare held fuel 124 cs=some x):∃ p:Tri,cs=[.int .i64 p.1,.int .i64 p.2.1,.int .i64 p.2.2]:=by
 obtain ⟨xs,m,_,_,hcl,hxl,hi⟩:=DataW.trod_struct Tryz.underlying124 h;have hxl':xs.length=3:=hxl;have a0:DataW.trod enc Tryz.prog w base spare held m 3 ((cs.drop 0).take (Tryz.prog.cellsOf 3))=xs[0]?:=hi 0 _ rfl;have a1:DataW.trod enc Tryz.prog w base spare held m 3 ((cs.drop 1).take (Tryz.prog.cellsOf 3))=xs[1]?:=hi 1 _ rfl;have a2:DataW.trod enc Tryz.prog w base spare held m 3 ((cs.drop 2).take (Tryz.prog.cellsOf 3))=xs[2]?:=hi 2 _ rfl;rw [Zg (by omega)] at a0 a1 a2;obtain ⟨n0,e0,_⟩:=DataW.trod_int Tryz.underlying3 a0;obtain ⟨n1,e1,_⟩:=DataW.trod_int Tryz.underlying3 a1;obtain ⟨n2,e2,_⟩:=DataW.trod_int Tryz.underlying3 a2;rw [show Tryz.prog.cellsOf 124=3 by kernel_rfl] at hcl
 rw [show Tryz.prog.cellsOf 3=1 by kernel_rfl] at e0 e1 e2
 clear a0 a1 a2 hi h;obtain ⟨c0,c1,c2,rfl⟩:=Qgj hcl;simp at e0 e1 e2;exact ⟨(n0,n1,n2),by simp [e0,e1,e2]⟩
theorem rel_arc (fuel:Nat)(cs:List Value)(x:DataW H×List MemPlace)(h:DataW.trod enc Tryz.prog w base spare held fuel 119 cs=some x):∃ p:Tri,cs=[.int .i64 p.1,.int .i64 p.2.1,.int .i64 p.2.2]:=by
 obtain ⟨xs,m,_,_,hcl,hxl,hi⟩:=DataW.trod_struct Tryz.underlying119 h;have hxl':xs.length=3:=hxl;have a0:DataW.trod enc Tryz.prog w base spare held m 3 ((cs.drop 0).take (Tryz.prog.cellsOf 3))=xs[0]?:=hi 0 _ rfl;have a1:DataW.trod enc Tryz.prog w base spare held m 3 ((cs.drop 1).take (Tryz.prog.cellsOf 3))=xs[1]?:=hi 1 _ rfl;have a2:DataW.trod enc Tryz.prog w base spare held m 2 ((cs.drop 2).take (Tryz.prog.cellsOf 2))=xs[2]?:=hi 2 _ rfl;rw [Zg (by omega)] at a0 a1 a2;obtain ⟨n0,e0,_⟩:=DataW.trod_int Tryz.underlying3 a0;obtain ⟨n1,e1,_⟩:=DataW.trod_int Tryz.underlying3 a1;obtain ⟨n2,e2,_⟩:=DataW.trod_int Tryz.underlying2 a2;rw [show Tryz.prog.cellsOf 119=3 by kernel_rfl] at hcl
 rw [show Tryz.prog.cellsOf 3=1 by kernel_rfl] at e0 e1
 rw [show Tryz.prog.cellsOf 2=1 by kernel_rfl] at e2
 clear a0 a1 a2 hi h;obtain ⟨c0,c1,c2,rfl⟩:=Qgj hcl;simp at e0 e1 e2;exact ⟨(n0,n1,n2),by simp [e0,e1,e2]⟩
def TabCs (w:World)(cs:List Value)(t:Qea):Prop:=∃ (A:Option Addr) (n c:Nat),cs=[.int .i64 t.ins,.int .i64 t.outs,.slice A n c]∧RdI w A n t.costs∧n≤c∧c≤9223372036854775807
theorem rel_tab (fuel:Nat)(cs:List Value)(x:DataW H×List MemPlace)(h:DataW.trod enc Tryz.prog w base spare held fuel 122 cs=some x):∃ t:Qea,TabCs w cs t:=by
 obtain ⟨xs,m,_,_,hcl,hxl,hi⟩:=DataW.trod_struct Tryz.underlying122 h;have hxl':xs.length=3:=hxl;have a0:DataW.trod enc Tryz.prog w base spare held m 3 ((cs.drop 0).take (Tryz.prog.cellsOf 3))=xs[0]?:=hi 0 _ rfl;have a1:DataW.trod enc Tryz.prog w base spare held m 3 ((cs.drop 1).take (Tryz.prog.cellsOf 3))=xs[1]?:=hi 1 _ rfl;have a2:DataW.trod enc Tryz.prog w base spare held m 36 ((cs.drop 2).take (Tryz.prog.cellsOf 36))=xs[2]?:=hi 2 _ rfl;rw [Zg (by omega)] at a0 a1 a2;obtain ⟨n0,e0,_⟩:=DataW.trod_int Tryz.underlying3 a0;obtain ⟨n1,e1,_⟩:=DataW.trod_int Tryz.underlying3 a1;obtain ⟨A,n,c,e2⟩:=Qdr Tryz.underlying36 a2;rw [e2] at a2;obtain ⟨l,h1,h2,h3,_,_⟩:=Qle Tryz.underlying36 Tryz.underlying2 (by kernel_rfl) a2;rw [show Tryz.prog.cellsOf 122=3 by kernel_rfl] at hcl
 rw [show Tryz.prog.cellsOf 3=1 by kernel_rfl] at e0 e1
 rw [show Tryz.prog.cellsOf 36=1 by kernel_rfl] at e2
 clear a0 a1 a2 hi h;obtain ⟨c0,c1,c2,rfl⟩:=Qgj hcl;simp at e0 e1 e2;exact ⟨⟨n0,n1,l⟩,A,n,c,by simp [e0,e1,e2],h1,h2,h3⟩
theorem open_net {cs:List Value}{fuel:Nat}{x:DataW H×List MemPlace}(h:DataW.trod enc Tryz.prog w base spare held fuel 26 cs=some x) :
 ∃ (A B C:Option Addr) (n m k c d e:Nat) (N:Qal),cs=[.slice A n c,.slice B m d,.slice C k e]∧Qbu w A B C n m k N∧k≤9223372036854775807:=by
 obtain ⟨xs,f,_,_,hcl,hxl,hi⟩:=DataW.trod_struct Tryz.underlying26 h;have hxl':xs.length=3:=hxl;have a0:DataW.trod enc Tryz.prog w base spare held f 22 ((cs.drop 0).take (Tryz.prog.cellsOf 22))=xs[0]?:=hi 0 _ rfl;have a1:DataW.trod enc Tryz.prog w base spare held f 23 ((cs.drop 1).take (Tryz.prog.cellsOf 23))=xs[1]?:=hi 1 _ rfl;have a2:DataW.trod enc Tryz.prog w base spare held f 24 ((cs.drop 2).take (Tryz.prog.cellsOf 24))=xs[2]?:=hi 2 _ rfl;rw [Zg (by omega)] at a0 a1 a2;obtain ⟨A,n,c,e0⟩:=Qdr Tryz.underlying22 a0;obtain ⟨B,m,d,e1⟩:=Qdr Tryz.underlying23 a1;obtain ⟨C,k,e,e2⟩:=Qdr Tryz.underlying24 a2;rw [e0] at a0;rw [e1] at a1;rw [e2] at a2;obtain ⟨vs,hl0,_,_,_,hr0⟩:=Qev Tryz.underlying22 (k:=3) (by kernel_rfl) (by omega) (fun cs (p:Tri)=>cs=[.int .i64 p.1,.int .i64 p.2.1,.int .i64 p.2.2]) rel_vert a0;obtain ⟨ar,hl1,_,_,_,hr1⟩:=Qev Tryz.underlying23 (k:=3) (by kernel_rfl) (by omega) (fun cs (p:Tri)=>cs=[.int .i64 p.1,.int .i64 p.2.1,.int .i64 p.2.2]) rel_arc a1;obtain ⟨ts,hl2,hkc,hcm,_,hr2⟩:=Qev Tryz.underlying24 (k:=3) (by kernel_rfl) (by omega) (TabCs w) rel_tab a2;rw [show Tryz.prog.cellsOf 26=3 by kernel_rfl] at hcl
 rw [show Tryz.prog.cellsOf 22=1 by kernel_rfl] at e0
 rw [show Tryz.prog.cellsOf 23=1 by kernel_rfl] at e1
 rw [show Tryz.prog.cellsOf 24=1 by kernel_rfl] at e2
 clear a0 a1 a2 hi h;obtain ⟨c0,c1,c2,rfl⟩:=Qgj hcl;simp at e0 e1 e2;refine ⟨A,B,C,n,m,k,c,d,e,⟨vs,ar,ts⟩,by simp [e0,e1,e2],⟨⟨hl0,fun i p hp=>?_⟩,⟨hl1,fun i p hp=>?_⟩,⟨hl2,fun i p hp=>?_⟩⟩,by omega⟩
 · obtain ⟨b,o,us,e5,rfl,_,hv⟩:=hr0 i p hp
   exact ⟨b,o,e5,by have:=hv 0 _ rfl;simpa using this,hv 1 _ rfl,hv 2 _ rfl⟩
 · obtain ⟨b,o,us,e5,rfl,_,hv⟩:=hr1 i p hp
   exact ⟨b,o,e5,by have:=hv 0 _ rfl;simpa using this,hv 1 _ rfl,hv 2 _ rfl⟩
 · obtain ⟨b,o,us,e5,⟨A',n',c',rfl,h1,h2,h3⟩,_,hv⟩:=hr2 i p hp
   exact ⟨b,o,e5,by have:=hv 0 _ rfl;simpa using this,hv 1 _ rfl,A',n',c',hv 2 _ rfl,h1,h2,h3⟩
end
theorem et_ : Tryz.prog.globalNamed "errors.errorType" = some 0 := by kernel_rfl
theorem rt_ : (Tryz.prog.cutTypes.find? (·.1 == "internal/reflectlite.rtype")).map (·.2) = some 281 := by kernel_rfl
theorem oneRow_:((List.range 363).filter fun t=>Tryz.prog.rowNamed t [101,114,114,111,114])=[44]:=by kernel_rfl
theorem size_:Tryz.prog.types.size=363:=by kernel_rfl
theorem Qkj {W : World} (h : laidMetH Tryz.prog [("errors.errorType", Rows.laid_errors_errorType)] W) : W.cell? ⟨0, 0, none⟩ = some Qkg := by
 have h' : laidMet Tryz.prog [] W ∧ handlesMet Tryz.prog [("errors.errorType", Rows.laid_errors_errorType)] W := h
 obtain ⟨name,u,ty,e1,e2,e3,e4,e5⟩:=h'.2 _ (List.mem_singleton.2 rfl);have en:name=[101,114,114,111,114]:=(Yv e1).symm;subst en;obtain rfl:=Yv (rt_.symm.trans e2);have hm:ty∈(List.range 363).filter fun t=>Tryz.prog.rowNamed t [101,114,114,111,114]:=List.mem_filter.2 ⟨List.mem_range.2 (by rw [←size_];exact e3),e4⟩
 rw [oneRow_] at hm;obtain rfl:=List.mem_singleton.1 hm;have hh:typeHandle Tryz.prog 44=.pointer (some ⟨1,44,none⟩):=by kernel_rfl
 rw [hh] at e5;unfold Qkg
 simpa using World.var?_cell et_ e5 0
noncomputable def Qop (os:Os):World :=
 let w0:=World.holding Tryz.prog os ⟨#[],#[],[]⟩
 { w0 with heap:=w0.heap.modify 0 fun
  | .cells _ t frozen=>.cells #[Qkg] t frozen
  | o=>o }
theorem Qmc (os : Os) (args : Array Value) : laidMetH Tryz.prog [("errors.errorType", Rows.laid_errors_errorType)] ((Qop os).forCall (fun _ _ => 0) ⟨#[], args, []⟩).memory :=
 laidMetH_of_parts (laidMet_nil _ _) (by kernel_rfl)
namespace PathShutDone
set_option maxRecDepth 100000 in
theorem lifted (os:Os)(started:os.Started)(H:Type)(enc:TypeId×Value→H) :
 ReturnsInHanded {} Tryz.checked os 7 .any (fun w args => (Rows.pathShutSpec.pre enc Tryz.prog Tryz.f7 [] false w args ∧ laidMetH Tryz.prog [("errors.errorType", Rows.laid_errors_errorType)] w) ∧ sizedMet enc Tryz.prog Tryz.f7 (OpenSpec.ofChange Rows.pathShutSpec) false w args)
  (Rows.pathShutSpec.post enc Tryz.prog Tryz.f7 false true false false):=by
 refine returnsInHanded_of_change_and (C := Tryz.checked) (X := fun w _ => laidMetH Tryz.prog [("errors.errorType", Rows.laid_errors_errorType)] w) (fun _ _ _ hh h => h.of_heap hh) own_ started (by kernel_rfl) Tryz.func7
  (ChangeSpec.witness_at (enc := enc) (C := Tryz.checked) (os := os) (X := fun w _ => laidMetH Tryz.prog [("errors.errorType", Rows.laid_errors_errorType)] w) false (Qop os) #[.agg #[.slice none 0 0, .slice none 0 0, .slice none 0 0], .agg #[.slice none 0 0], .int .u16 0, .int .u16 0, .int .u8 0] 8 rfl (by kernel_rfl) (by kernel_rfl) (by kernel_rfl) (by kernel_rfl) (by kernel_rfl) (Qmc os _)) ?_
 intro W base args ds gs before hval0 hW _ hsz0 hL _;clear hsz0;have hval:∀ (j:Nat) t v,Tryz.f7.params[j]?=some t→args[j]?=some v→Value.okWide Tryz.prog W .any base t v:=hval0;have hW':=hW;obtain ⟨p,q,hA0,hV,rfl,hfz,hnd⟩:=hW;have hA:DataW.TrodAll enc Tryz.prog W 0 (fun _=>true) true Tryz.f7.params.toList args.toList ds p:=hA0;rw [Tryz.params7] at hA hval;obtain ⟨v0,vs0,d0,ds0,p0,q0,hargs,rfl,rfl,h0,r0⟩:=trodAll_cons hA;obtain ⟨v1,vs1,d1,ds1,p1,q1,rfl,rfl,rfl,h1,r1⟩:=trodAll_cons r0;obtain ⟨v2,vs2,d2,ds2,p2,q2,rfl,rfl,rfl,h2,r2⟩:=trodAll_cons r1;obtain ⟨v3,vs3,d3,ds3,p3,q3,rfl,rfl,rfl,h3,r3⟩:=trodAll_cons r2;obtain ⟨v4,vs4,d4,ds4,p4,q4,rfl,rfl,rfl,h4,r4⟩:=trodAll_cons r3;obtain ⟨rfl,rfl,rfl⟩:=trodAll_nil r4;obtain rfl:args=#[v0,v1,v2,v3,v4]:=by cases args;simp_all
 obtain ⟨rfl,rfl⟩:=trodVars_none hV;obtain ⟨cs0,rfl,_⟩:=okWide_struct Tryz.underlying26 (hval 0 26 v0 rfl rfl);have k0:=h0;have lt0:∀ x∈p0,x.block<W.heap.size:=by obtain ⟨m,hm⟩:=k0;exact DataW.trod_lt m _ _ _ hm
 obtain ⟨A,B,C,n,m,k,c,d,e,N,hcs0,hnet,hk⟩:∃ (A B C:Option Addr) (n m k c d e:Nat) (N:Qal),cs0=#[.slice A n c,.slice B m d,.slice C k e]∧Qbu W A B C n m k N∧k≤9223372036854775807:=by
  obtain ⟨fuel,hf⟩:=h0;obtain ⟨A,B,C,n,m,k,c,d,e,N,e1,e2,e3⟩:=open_net hf;exact ⟨A,B,C,n,m,k,c,d,e,N,Array.toList_inj.1 e1,e2,e3⟩
 subst hcs0;obtain ⟨cs1,rfl,_⟩:=okWide_struct Tryz.underlying29 (hval 1 29 v1 rfl rfl);have k1:=h1;have lt1:∀ x∈p1,x.block<W.heap.size:=by obtain ⟨m,hm⟩:=k1;exact DataW.trod_lt m _ _ _ hm
 obtain ⟨Q,L,cq,ls,hcs1,hpart,hLc⟩:∃ (Q:Option Addr) (L cq:Nat) (ls:List (List Int)),cs1=#[.slice Q L cq]∧RdT W Q L ls∧L≤9223372036854775807:=by
  obtain ⟨fuel,hf⟩:=h1;obtain ⟨Q,L,cq,ls,e1,e2,e3,e4⟩:=Qyh hf;exact ⟨Q,L,cq,ls,Array.toList_inj.1 e1,e2,by omega⟩
 subst hcs1;obtain ⟨a2,rfl,rfl,rfl,w2⟩:=open_int Tryz.underlying78 (hval 2 78 v2 rfl rfl) h2;have hb2:=bounds_u16 w2;obtain ⟨a3,rfl,rfl,rfl,w3⟩:=open_int Tryz.underlying78 (hval 3 78 v3 rfl rfl) h3;have hb3:=bounds_u16 w3;obtain ⟨a4,rfl,rfl,rfl,w4⟩:=open_int Tryz.underlying5 (hval 4 5 v4 rfl rfl) h4;have hb4:=bounds_u8 w4;clear hA0 hval0;have hg:=Qkj hL;refine (Qmp A B C Q n m k c d e L cq N ls a2 a3 a4 W hnet hk hpart hLc hb2 hb3 hb4 hg).mono fun e W' ⟨he,bel⟩=>?_
 subst he;exact ⟨_,rfl,_,_,_,[],_,[],hW',trodAll_mk1 (shut_bool Tryz.underlying4 _),(trodAll_cons_mk (Below.trod Qsc (by kernel_rfl) (of_decide_eq_true (by kernel_rfl)) k0 bel lt0) (trodAll_cons_mk (Below.trod Qsc (by kernel_rfl) (of_decide_eq_true (by kernel_rfl)) k1 bel lt1) (trodAll_cons_mk (shut_int Tryz.underlying78 w2) (trodAll_cons_mk (shut_int Tryz.underlying78 w3) (trodAll_cons_mk (shut_int Tryz.underlying5 w4) trodAll_mk0))))),rfl,bel.frame _,fun h=>by cases h⟩
theorem jf0:Rows.pathShutRow.wf (OpenSpec.ofChange Rows.pathShutSpec)=true:=by kernel_rfl
theorem jf1:laidOutB Tryz.prog=true:=by kernel_rfl
theorem jf2:mapsRowed Tryz.prog=true:=by kernel_rfl
theorem jf3:Tryz.f7.params.all (Tryz.prog.readableRec ·)=true:=by kernel_rfl
theorem jf4:namedTie Tryz.prog Rows.pathShutRow.named Rows.pathShutSpec.vars=true:=by kernel_rfl
theorem jf5:(Rows.pathShutRow.stops == [])=true:=by kernel_rfl
theorem jf6:(Tryz.prog.stops == [])=true:=by kernel_rfl
theorem jf7:(Rows.pathShutRow.knobs == [])=true:=by kernel_rfl
theorem jf8:(Tryz.prog.stopKnobs == [])=true:=by kernel_rfl
theorem jf9:(Rows.pathShutRow.inPlace == Tryz.prog.inPlace 7)=true:=by kernel_rfl
theorem jf10:(Rows.pathShutRow.unfollowed == Tryz.prog.unfollowed 7)=true:=by kernel_rfl
theorem jf11:(Rows.pathShutRow.recurses == Tryz.prog.recurses 7)=true:=by kernel_rfl
theorem jf12:(Rows.pathShutRow.named == Tryz.prog.varsNamed 7)=true:=by kernel_rfl
theorem jf13:(Rows.pathShutRow.maps == (Tryz.f7.params.toList ++Rows.pathShutSpec.plain.varTypes Tryz.prog).any (Tryz.prog.mapsRec ·))=true:=by kernel_rfl
theorem jf14:(Rows.pathShutRow.ifaces == (Tryz.f7.params.toList ++Rows.pathShutSpec.plain.varTypes Tryz.prog).any (Tryz.prog.ifacesRec ·))=true:=by kernel_rfl
theorem jf15:(Rows.pathShutRow.mapsOut == Tryz.prog.mapsAmong Tryz.f7.resultTypes.toList)=true:=by kernel_rfl
theorem jf16:(Rows.pathShutRow.loops == (Tryz.f7.params.toList ++Rows.pathShutSpec.plain.varTypes Tryz.prog).any (Tryz.prog.loopsFrom ·))=true:=by kernel_rfl
theorem jf17:(Rows.pathShutRow.wideKeys == (Tryz.f7.params.toList ++Rows.pathShutSpec.plain.varTypes Tryz.prog ++Tryz.f7.resultTypes.toList).any (Tryz.prog.wideKeysFrom ·))=true:=by kernel_rfl
theorem jf18:Rows.pathShutSpec.vars.all (Tryz.prog.varReadable ·)=true:=by kernel_rfl
theorem jf19:Tryz.f7.resultTypes.all (fun t=>Tryz.prog.readableRec t && decide (t<Tryz.prog.types.size))=true:=by kernel_rfl
theorem jf20:(Rows.pathShutRow.ifacesOut == Tryz.f7.resultTypes.toList.any (Tryz.prog.ifacesRec ·))=true:=by kernel_rfl
theorem jf21:(Rows.pathShutRow.loopsOut == Tryz.f7.resultTypes.toList.any (Tryz.prog.loopsFrom ·))=true:=by kernel_rfl
theorem jf22:(Rows.pathShutRow.plainKeys == Tryz.prog.plainKeys)=true:=by kernel_rfl
theorem jf23:Rows.pathShutRow.shortTexts.isNone=true:=by kernel_rfl
theorem jf24:Tryz.prog.stopsHeard=true:=by kernel_rfl
theorem jf25:Tryz.prog.mayEnter=true:=by kernel_rfl
theorem jf26:(Rows.pathShutRow.lifted == Tryz.prog.liftsFinal)=true:=by kernel_rfl
theorem jf27:(Tryz.prog.make == some Rows.pathShutRow.make)=true:=by kernel_rfl
theorem jf28:(Rows.pathShutRow.kinds == (if Rows.pathShutRow.domain.isEmpty then [] else Tryz.f7.params.toList.map fun t=>match Tryz.prog.underlying t with|some (.int k)=>some k|_=>none))=true:=by kernel_rfl
theorem jf29:(Rows.pathShutRow.pinned == Rows.pathShutRow.pinnedBy)=true:=by kernel_rfl
theorem jf30:(Rows.pathShutRow.veiled == (Tryz.f7.params.toList ++Rows.pathShutSpec.plain.varTypes Tryz.prog ++Tryz.f7.resultTypes.toList).any (Tryz.prog.veiledRec ·))=true:=by kernel_rfl
theorem jf31:Rows.pathShutRow.veiledFits Tryz.prog Tryz.f7.params.toList (Tryz.f7.params.toList ++Rows.pathShutSpec.plain.varTypes Tryz.prog ++Tryz.f7.resultTypes.toList)=true:=by kernel_rfl
set_option maxRecDepth 100000 in
theorem closed:joinedFacts Tryz.prog 7 Tryz.f7 Rows.pathShutSpec Rows.pathShutRow=true:=by
 simp only [joinedFacts,Bool.and_eq_true];exact ⟨⟨⟨⟨⟨⟨⟨⟨⟨⟨⟨⟨⟨⟨⟨⟨⟨⟨⟨⟨⟨⟨⟨⟨⟨⟨⟨⟨⟨⟨⟨jf0,jf1⟩,jf2⟩,jf3⟩,jf4⟩,jf5⟩,jf6⟩,jf7⟩,jf8⟩,jf9⟩,jf10⟩,jf11⟩,jf12⟩,jf13⟩,jf14⟩,jf15⟩,jf16⟩,jf17⟩,jf18⟩,jf19⟩,jf20⟩,jf21⟩,jf22⟩,jf23⟩,jf24⟩,jf25⟩,jf26⟩,jf27⟩,jf28⟩,jf29⟩,jf30⟩,jf31⟩
theorem named : Tryz.prog.funcNamed "roundsman/roundsmanlaw22.PathShut" = some 7 := by kernel_rfl
theorem inst:Tryz.f7.isInstance Tryz.prog Rows.pathShutRow.origin Rows.pathShutRow.targs:=of_decide_eq_true (by kernel_rfl)
theorem wrap:Tryz.f7.isWrapper Tryz.prog Rows.pathShutRow.wrapper Rows.pathShutRow.mainSum:=by unfold Func.isWrapper;rw [if_neg (of_decide_eq_false (by kernel_rfl))];exact ⟨rfl,rfl⟩
theorem over:Rows.PathShutSaid :=
 OpenClaim.holds_of_wide 7 Tryz.f7 rfl rfl rfl rfl rfl rfl rfl ⟨rfl,rfl,rfl,rfl,rfl⟩ rfl rfl rfl rfl rfl named Tryz.func7 closed inst wrap
  (fun os started H enc _=>lifted os started H enc)
theorem byText:Rows.pathShutRow.wfByText (OpenSpec.ofChange Rows.pathShutSpec)=true:=by kernel_rfl
theorem mainIs : Tryz.prog.mainIs = some (((true, "e050398fe6459b335d862d199e00ee26368d24a03f5a06a9ac40ea2e9df76a20") : Bool × String).1, ((true, "e050398fe6459b335d862d199e00ee26368d24a03f5a06a9ac40ea2e9df76a20") : Bool × String).2.toList) := by kernel_rfl
theorem looksL:true=Tryz.prog.looks []:=by kernel_rfl
theorem goes:false=Rows.pathShutRow.goesBy Tryz.prog:=by kernel_rfl
theorem proved:Rows.PathShutCardSaid :=
 Claim7.holds_tied_plain_at .later [] [.handle] true (true, "e050398fe6459b335d862d199e00ee26368d24a03f5a06a9ac40ea2e9df76a20") true
  over (fun _ h=>by cases h) byText (fun _ h=>by cases h) pathShut_row_tie rfl ⟨rfl,rfl⟩ mainIs rfl
  (fun f fn hf hfn=>by
   obtain rfl:f=7:=Yv (named.symm.trans hf) |>.symm
   obtain rfl:fn=Tryz.f7:=(Yv (Tryz.func7.symm.trans hfn)).symm
   exact ⟨looksL,fun j t ht=>by
    rw [Tryz.params7] at ht
    rcases j with _|_|_|_|_|j
    · obtain rfl:t=26:=by simpa using ht.symm
      exact (show Tryz.prog.wantsStandIn 26=false by kernel_rfl)
    · obtain rfl:t=29:=by simpa using ht.symm
      exact (show Tryz.prog.wantsStandIn 29=false by kernel_rfl)
    · obtain rfl:t=78:=by simpa using ht.symm
      exact (show Tryz.prog.wantsStandIn 78=false by kernel_rfl)
    · obtain rfl:t=78:=by simpa using ht.symm
      exact (show Tryz.prog.wantsStandIn 78=false by kernel_rfl)
    · obtain rfl:t=5:=by simpa using ht.symm
      exact (show Tryz.prog.wantsStandIn 5=false by kernel_rfl)
    · simp at ht⟩)
  goes
#print axioms proved
end PathShutDone
end Go.Proofs.YtdheeddnkdhfeaaGreatDoor
