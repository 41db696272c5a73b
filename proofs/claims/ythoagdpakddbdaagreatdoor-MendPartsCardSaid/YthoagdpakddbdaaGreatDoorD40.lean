/- Parts of the proof: Sf, MeG, Open, OpN, Laid. -/
import Derived.Test.YthoagdpakddbdaaGreatDoorD1
import Derived.Test.YthoagdpakddbdaaGreatDoorD2
import Derived.Test.YthoagdpakddbdaaGreatDoorD9
import Derived.Test.YthoagdpakddbdaaGreatDoorD16
import Derived.Test.YthoagdpakddbdaaGreatDoorD23
import Derived.Test.YthoagdpakddbdaaGreatDoorD26
import Derived.Test.YthoagdpakddbdaaGreatDoorD37
import Derived.Test.YthoagdpakddbdaaGreatDoorD39
import Derived.Test.YthoagdpakddbdaaGreatDoorRows
import Derived.ProofKit
import Derived.OpenShut
import Derived.Deep.Slices
import Derived.SizedLaws
import Derived.ChangeArms
import Derived.Test.YthoagdpakddbdaaGreatDoorTie
import Derived.Test.YthoagdpakddbdaaGreatDoorCards
import Derived.Handed
import Derived.ChangeSame
import Derived.ChangeVars
import Derived.JoinedOf
import Derived.LaidLaws
import Derived.LaidHandle
import Derived.SevenTiedAt
namespace Go.Proofs.YthoagdpakddbdaaGreatDoor
open Go.RowKit Go.Proofs.Tryz
theorem Qmz {N:Qaj} {ls:List (List Int)} (h:Qvk N ls):Qbf (gatesOf N.ar ls)≤1000000000:=by
 have hA:=h.small.a;have hv:=h.small.v;have h6:=h.part.l6
 have hx:∀ x∈(gatesOf N.ar ls).map Qda,x≤194400:=fun z hz=>by
  obtain ⟨row,hr,rfl⟩:=List.mem_map.1 hz;obtain ⟨l,hl,rfl⟩:=List.mem_map.1 hr
  have hm:∀ y∈(gateRow N.ar l).map szG,y≤8100:=fun y hy=>by
   obtain ⟨x,hx,rfl⟩:=List.mem_map.1 hy;obtain ⟨c,hc⟩:=List.getElem?_of_mem hx;have g:=Qbg hc;unfold szG;have:=Nat.mul_le_mul (show x.1.length≤90 by omega) (show x.2.length≤90 by omega)
   omega
  have h1:=Qsc hm;have h2:=h.part.lvl l hl;have h3:=Qbp (l:=l) (n:=(N.vs.length:Int)) (fun x hx=>h2.hi x hx) (by omega);rw [List.length_map,Qan] at h1;have h4:(Qai l).toNat*8100≤24*8100:=Nat.mul_le_mul_right _ (by omega);unfold Qda;omega
 have h1:=Qsc hx;rw [List.length_map,show (gatesOf N.ar ls).length=ls.length by simp [gatesOf]] at h1
 have h4:ls.length*194400≤6*194400:=Nat.mul_le_mul_right _ (by omega);unfold Qbf;omega
theorem Qsr {N:Qaj} {ls:List (List Int)} (h:Qvk N ls):ls.length≤6∧(∀ l∈ls,(Qai l).toNat≤4096)∧N.ar.length≤1000000:=by
 have h1:=h.small.ok.lv;have h2:=h.small.ok.la;refine ⟨h.part.l6,fun l hl=>?_,by omega⟩;have h3:=h.part.lvl l hl;have h4:=Qbp (l:=l) (n:=(N.vs.length:Int)) (fun x hx=>h3.hi x hx) (by omega);omega
theorem Qgw {N:Qaj} {ls:List (List Int)} (h:Qvk N ls) (f:Nat→Nat→Bool):∀ r∈tb ls f,r.length≤4096:=fun r hr=>by
 obtain ⟨i,hi⟩:=List.getElem?_of_mem hr;have hl:=(Zs hi).1;rw [Qcs] at hl;have h2:=Zg hl;have h3:=Qcw (f:=f) h2;rw [hi] at h3
 cases h3
 rw [List.length_map,List.length_range];exact (Qsr h).2.1 _ (Zm h2)
theorem howT_bd {t:List (List Bool)} {M:Nat} (h:∀ r∈t,r.length≤M):Qeq t≤t.length*M:=by
 induction t with
 | nil=>simp [Qeq]
 | cons r t ih =>
  have h1:=ih (fun x hx=>h x (List.mem_cons_of_mem _ hx));have h2:=h r (List.mem_cons_self ..);have h3:Qlh r≤r.length:=by unfold Qlh;exact List.countP_le_length
  unfold Qeq at *;rw [List.map_cons,List.sum_cons,List.length_cons,Nat.add_mul];omega
theorem Qyb {N:Qaj} {ls:List (List Int)} (h:Qvk N ls) (f:Nat→Nat→Bool):Qeq (tb ls f)≤24576:=by
 have h1:=howT_bd (Qgw h f);have h2:=(Qsr h).1;rw [Qcs] at h1;have h3:=Nat.mul_le_mul_right 4096 h2;omega
theorem Qha.take {w:World}{A:Option Addr}{n m:Nat}{l:List Chn}(h:Qha w A n l)(hm:m≤n):Qha w A m (l.take m) :=
 ⟨by rw [List.length_take,h.1];omega,fun i x hx=>h.2 i x (by rw [List.getElem?_take] at hx;split at hx;exact hx;cases hx)⟩
theorem Qha.cut {w:World}{A:Option Addr}{n m c r:Nat}{l:List Chn}(h:Qha w A n l)(hm:m≤n)(hr:n-m=r)(hc:n≤c):Qha w (cutA 5 A m c) r (l.drop m) :=
 ⟨by rw [List.length_drop,h.1,hr],fun i x hx=>by
  rw [List.getElem?_drop] at hx;obtain ⟨b,o,rfl,h1,h2,h3,h4,h5⟩:=h.2 _ x hx;have hlt:m+i<l.length:=(Zs hx).1
  rw [h.1] at hlt;unfold cutA;rw [if_neg (by omega)];rw [show o+(m+i)*5=o+m*5+i*5 by omega] at h1 h2 h3 h4 h5
  refine ⟨b,o+m*5,?_,h1,h2,h3,h4,h5⟩;simp only [Option.map_some,Addr.add]
  split
  · rename_i h0;rw [h0];rfl
  · simp⟩
structure MdS (W:World) (F G:Nat→Prop) (g o:Nat) (N:Qaj) (ls:List (List Int)) (NC:Nat):Prop where
 go:GO W F G g o N ls
 part:Qcg N.vs.length ls
 nc:NC=Qbf (gatesOf N.ar ls)
 n9:NC≤1000000000
theorem MdS.below {W W':World}{F G:Nat→Prop}{g o NC:Nat}{N:Qaj} {ls:List (List Int)} (h:MdS W F G g o N ls NC) (hb:Below W.heap.size W W'):MdS W' F G g o N ls NC:=⟨h.go.below hb,h.part,h.nc,h.n9⟩
theorem MdS.keep {W W':World}{F G K:Nat→Prop}{g o NC:Nat}{N:Qaj} {ls:List (List Int)} (h:MdS W F G g o N ls NC) (hK:Qaz (fun b=>¬K b) W W') (hz:W.heap.size≤W'.heap.size) (hF:∀ b,F b→¬K b) (hG:∀ b,G b→¬K b):MdS W' F G g o N ls NC :=
 ⟨⟨h.go.gr.keep hz (hK.mono hF),h.go.ov.le (hK.mono hG).msk,h.go.dis,fun b hb=>Nat.lt_of_lt_of_le (h.go.lt b hb) hz⟩,h.part,h.nc,h.n9⟩
def DoQ (w:World)(F G:Nat→Prop)(g o:Nat)(N:Qaj) (ls:List (List Int)) (NC:Nat) (l:List Chn) (r:Ending) (w':World):Prop :=
 ∃ (B:Nat) (cl:List Int) (F':Nat→Prop),r=.returned (.tuple #[.slice (some ⟨B,0,none⟩) NC NC,.int .i64 ((Qeq (tb ls (Qcc N ls l)):Nat):Int),.nilIface])∧w.heap.size≤B ∧
  Blk w' B 2 (Qad cl).toArray∧Qds (Qfg N l) ls cl∧MdS w' F' G g o (Qfg N l) ls NC∧(∀ b,F' b→(F b∨w.heap.size≤b)∧b<B)∧Qaz (fun b=>¬F b) w w'∧w.heap.size≤w'.heap.size∧∀ Bd,Bd≤w.heap.size→(∀ b,F b→Bd≤b)→Below Bd w w'
theorem Qsn (w:World)(F G:Nat→Prop)(g o:Nat)(N:Qaj) (ls:List (List Int)) (NC:Nat) (A:Option Addr) (n cA cC B0 B1:Nat) (l:List Chn) (costs:List Int) (h:MdS w F G g o N ls NC) (hB:Blk w B0 2 (Qad costs).toArray) (hF0:¬F B0) (hall:Qds N ls costs)
 (hown:Own w B1 83 5 A n cA (Qcb l)) (hF1:∀ b,F b→b<B1) (hb:Qch N l) (hl256:l.length≤256) :
 Calls prog 19 #[.pointer (some ⟨g,0,none⟩),.pointer (some ⟨o,0,none⟩),.slice (some ⟨B0,0,none⟩) NC cC,.slice A n cA] w (DoQ w F G g o N ls NC l):=by
 have hc:RdI (msk w (fun b=>¬F b)) (some ⟨B0,0,none⟩) NC costs:=(hB.msk_ hF0).rdI (by rw [h.nc];exact hall.1);have hl:Qha (msk w (fun b=>¬F b)) A n l:=hown.rdCm (fun b h1 _ h2=>by have:=hF1 b h2;omega);have hs:=Qcl hb;have:=do_ok w g o F N ls A (some ⟨B0,0,none⟩) n cA cC l costs h.go.gr h.go.ovF h.part (by rw [←h.nc];exact h.n9) (by rw [←h.nc];exact hc) hall hl hb hl256;rw [←h.nc] at this;refine this.mono ?_;rintro r w' ⟨B,cl,F',e,hz,hBk,hA,hF',hG',hK,hsz,hBel⟩;rw [←h.nc] at e;exact ⟨B,cl,F',e,hz,hBk,hA,⟨h.go.step hs.kin hG' hF' hK hsz,by rw [hs.kin.vs];exact h.part,by rw [hs.kin.al.gatesOf];exact h.nc,h.n9⟩,hF',hK,hsz,hBel⟩
def AllQ (w:World)(N:Qaj) (ls:List (List Int)) (NC:Nat) (r:Ending) (w':World):Prop :=
 ∃ (B:Nat) (cl:List Int),r=.returned (.slice (some ⟨B,0,none⟩) NC NC)∧w.heap.size≤B∧Blk w' B 2 (Qad cl).toArray∧Qds N ls cl∧Below w.heap.size w w'
theorem Qwb (w:World)(F G:Nat→Prop)(g o:Nat)(N:Qaj) (ls:List (List Int)) (NC:Nat) (h:MdS w F G g o N ls NC):Calls prog 18 #[.pointer (some ⟨g,0,none⟩),.pointer (some ⟨o,0,none⟩)] w (AllQ w N ls NC):=by
 refine (all_ok w g o N ls h.go.gr.rd h.go.gr.ok h.go.ovR h.part (by rw [←h.nc];exact h.n9)).mono ?_;rintro r w' ⟨B,cl,e,hz,hB,hcl,_,hd,hb⟩;rw [←h.nc] at e;exact ⟨B,cl,e,hz,hB,hd.all hcl,hb⟩
end Go.Proofs.YthoagdpakddbdaaGreatDoor
namespace Go.Proofs.YthoagdpakddbdaaGreatDoor
open Go.ChangeShapes Go.WideShapes Go.ChangeAt Go.RowKit Go.Deep
theorem own_:ownKnob Tryz.prog.godebug=none:=by kernel_rfl
theorem Qde:laidOutB Tryz.prog=true:=by kernel_rfl
theorem Qxp {α:Type}{p:Nat→α→Prop}:∀ (n:Nat),(∀ i,i<n→∃ a,p i a)→∃ l:List α,l.length=n∧∀ i a,l[i]?=some a→p i a
 | 0,_=>⟨[],rfl,fun i a h=>by simp at h⟩
 | n+1,h=>by
  obtain ⟨l,hl,hp⟩:=Qxp n (fun i hi=>h i (by omega));obtain ⟨a,ha⟩:=h n (by omega);refine ⟨l ++[a],by simp [hl],fun i b hb=>?_⟩
  rcases Nat.lt_or_ge i n with h1|h1
  · rw [List.getElem?_append_left (by omega)] at hb;exact hp i b hb
  · rw [List.getElem?_append_right (by omega),hl] at hb
    have:i=n:=by
     rcases Nat.lt_or_ge (i-n) 1 with h2|h2
     · omega
     · rw [List.getElem?_eq_none (by simpa using h2)] at hb;cases hb
    subst this;simp at hb;subst hb;exact ha
section
variable {H:Type} {enc:TypeId×Value→H} {P:Program} {w:World} {base:Nat} {spare:Nat→Bool} {held:Bool}
theorem Qdz {α:Type}{t e k:Nat} (ht:P.underlying t=some (.slice e)) (hk:P.cellsOf e=k) (hk0:0<k) (Rel:List Value→α→Prop)
 (hel:∀ (fuel:Nat) (cs:List Value) (x:DataW H×List MemPlace),DataW.trod enc P w base spare held fuel e cs=some x→∃ a,Rel cs a)
 {A:Option Addr} {n c fuel:Nat} {x:DataW H×List MemPlace} (h:DataW.trod enc P w base spare held fuel t [.slice A n c]=some x) :
 ∃ l:List α,l.length=n∧n≤c∧c≤9223372036854775807∧(n=0∨∃ el sp,x.1=.slice el sp∧el.length=n) ∧
  ∀ i a,l[i]?=some a→∃ b o vs,A=some ⟨b,o,none⟩∧Rel vs a∧vs.length=k∧∀ j v,vs[j]?=some v→w.cell? ⟨b,o+i*k+j,none⟩=some v:=by
 rcases open_slice ht h with ⟨h0,_⟩|⟨a,len,cap,m,n',D,Pl,hcs,hb,hl,hm,hmm,hx,hi⟩
 · simp only [List.cons.injEq,Value.slice.injEq,and_true] at h0
   obtain ⟨rfl,rfl,rfl⟩:=h0;exact ⟨[],rfl,Zn _,by omega,.inl rfl,fun i a h=>by simp at h⟩
 · simp only [List.cons.injEq,Value.slice.injEq,and_true] at hcs
   obtain ⟨rfl,rfl,rfl⟩:=hcs;have hlm:n≤m:=by rw [hmm];split <;> omega
   obtain ⟨l,hll,hlp⟩:=Qxp (p:=fun i (y:α)=>∃ vs,Rel vs y∧vs.length=k∧∀ j v,vs[j]?=some v→w.cell? ((a.add (i*k)).add j)=some v) n (fun i hin=>by
    obtain ⟨cs',hc,ht'⟩:=hi i (by omega);rw [hk] at hc;obtain ⟨_,hlen,hat⟩:=World.cells?_some hc;obtain ⟨y,hy⟩:=hel _ _ _ ht';refine ⟨y,cs',hy,hlen,fun j v hv=>?_⟩;have hj:j<k:=by rw [←hlen];exact (Zs hv).1
    rw [hat j hj,hv])
   refine ⟨l,hll,hl,(by unfold maxLen at hm;omega),.inr ⟨_,_,by rw [hx],by simp⟩,fun i y hy=>?_⟩;obtain ⟨vs,h1,h2,h3⟩:=hlp i y hy
   have hspot:a.spot=none:=by
    have h4:=h3 0 vs[0] (Zg (by omega));have h5:=World.cell?_spot h4;unfold Addr.add at h5
    by_cases h6:i*k=0
    · simpa [h6] using h5
    · have hl0:l.length=n:=hll
      have h7:0<n:=by
       have:=(Zs hy).1;omega
      obtain ⟨y0,hy0⟩:∃ y0,l[0]?=some y0:=⟨l[0],Zg (by omega)⟩;obtain ⟨vs0,g1,g2,g3⟩:=hlp 0 y0 hy0;have g4:=World.cell?_spot (g3 0 vs0[0] (Zg (by omega)))
      simpa [Addr.add] using g4
   obtain ⟨b,o,sp⟩:=a;simp only at hspot;subst hspot;refine ⟨b,o,vs,rfl,h1,h2,fun j v hv=>?_⟩;have:=h3 j v hv;unfold Addr.add at this
   by_cases h6:i*k=0
   · by_cases h7:j=0
     · simpa [h6,h7] using this
     · simpa [h6,h7] using this
   · by_cases h7:j=0
     · simpa [h6,h7] using this
     · simpa [h6,h7] using this
theorem rel_int {k:IntKind}{e:Nat} (he:P.underlying e=some (.int k)) (fuel:Nat) (cs:List Value) (x:DataW H×List MemPlace) (h:DataW.trod enc P w base spare held fuel e cs=some x) :
 ∃ n:Int,cs=[.int k n]∧(Lit.int k n).wf=true:=by
 obtain ⟨n,h1,_,h3⟩:=DataW.trod_int he h;exact ⟨n,h1,h3⟩
theorem rel_bool {e:Nat}(he:P.underlying e=some .bool)(fuel:Nat)(cs:List Value)(x:DataW H×List MemPlace)(h:DataW.trod enc P w base spare held fuel e cs=some x) :
 ∃ n:Bool,cs=[.bool n]:=by
 obtain ⟨n,h1,_⟩:=DataW.trod_bool he h;exact ⟨n,h1⟩
theorem open_bools {t e:Nat} (ht:P.underlying t=some (.slice e)) (he:P.underlying e=some .bool) (hc:P.cellsOf e=1)
 {A:Option Addr} {n c fuel:Nat} {x:DataW H×List MemPlace} (h:DataW.trod enc P w base spare held fuel t [.slice A n c]=some x) :
 ∃ l:List Bool,RdB w A n l∧n≤c∧c≤9223372036854775807∧(n=0∨∃ el sp,x.1=.slice el sp∧el.length=n):=by
 obtain ⟨l,hl,hnc,hcm,hsz,hr⟩:=Qdz ht hc (by omega) (fun cs (p:Bool)=>cs=[.bool p]) (rel_bool he) h;refine ⟨l,⟨hl,fun i p hp=>?_⟩,hnc,hcm,hsz⟩;obtain ⟨b,o,vs,rfl,rfl,_,hv⟩:=hr i p hp;exact ⟨b,o,rfl,by have:=hv 0 _ rfl;simpa using this⟩
theorem Qfv {k:IntKind}{t e:Nat} (ht:P.underlying t=some (.slice e)) (he:P.underlying e=some (.int k)) (hc:P.cellsOf e=1)
 {A:Option Addr} {n c fuel:Nat} {x:DataW H×List MemPlace} (h:DataW.trod enc P w base spare held fuel t [.slice A n c]=some x) :
 ∃ l:List Int,RdK k w A n l∧n≤c∧c≤9223372036854775807∧(n=0∨∃ el sp,x.1=.slice el sp∧el.length=n)∧∀ a∈l,(Lit.int k a).wf=true:=by
 obtain ⟨l,hl,hnc,hcm,hsz,hr⟩:=Qdz ht hc (by omega) (fun cs (p:Int)=>cs=[.int k p]∧(Lit.int k p).wf=true) (rel_int he) h;refine ⟨l,⟨hl,fun i p hp=>?_⟩,hnc,hcm,hsz,fun a ha=>?_⟩
 · obtain ⟨b,o,vs,rfl,⟨rfl,_⟩,_,hv⟩:=hr i p hp
   exact ⟨b,o,rfl,by have:=hv 0 _ rfl;simpa using this⟩
 · obtain ⟨i,hi,e1⟩:=List.getElem_of_mem ha
   obtain ⟨b,o,vs,_,⟨_,h2⟩,_,_⟩:=hr i a (by rw [Zg hi,e1]);exact h2
end
end Go.Proofs.YthoagdpakddbdaaGreatDoor
namespace Go.Proofs.YthoagdpakddbdaaGreatDoor
open Go.ChangeShapes Go.WideShapes Go.ChangeAt Go.RowKit Go.Deep
theorem list_one {α:Type}:∀ {l:List α},l.length=1→∃ a,l=[a]
 | [a],_=>⟨a,rfl⟩
theorem Qga {α:Type}:∀ {l:List α},l.length=3→∃ a b c,l=[a,b,c]
 | [a,b,c],_=>⟨a,b,c,rfl⟩
section
variable {H:Type} {enc:TypeId×Value→H} {w:World} {base:Nat} {spare:Nat→Bool} {held:Bool}
theorem Qdt {t e:TypeId} (ht:Tryz.prog.underlying t=some (.slice e)) {fuel:Nat} {cs:List Value} {x:DataW H×List MemPlace} (h:DataW.trod enc Tryz.prog w base spare held fuel t cs=some x):∃ A n c,cs=[.slice A n c]:=by
 rcases open_slice ht h with ⟨h0,_⟩|⟨a,len,cap,m,n',D,Pl,hcs,_⟩
 · exact ⟨_,_,_,h0⟩
 · exact ⟨_,_,_,hcs⟩
theorem rel_row (fuel:Nat)(cs:List Value)(x:DataW H×List MemPlace)(h:DataW.trod enc Tryz.prog w base spare held fuel 93 cs=some x) :
 ∃ l:List Int,∃ A n c,cs=[.slice A n c]∧RdI w A n l∧n≤c∧c≤9223372036854775807:=by
 obtain ⟨A,n,c,rfl⟩:=Qdt Tryz.underlying93 h;obtain ⟨l,h1,h2,h3,_,_⟩:=Qfv Tryz.underlying93 Tryz.underlying3 (by kernel_rfl) h;exact ⟨l,A,n,c,rfl,h1,h2,h3⟩
theorem Qkq {cs:List Value}{fuel:Nat}{x:DataW H×List MemPlace}(h:DataW.trod enc Tryz.prog w base spare held fuel 29 cs=some x) :
 ∃ (A:Option Addr) (n c:Nat) (ls:List (List Int)),cs=[.slice A n c]∧RdT w A n ls∧n≤c∧c≤9223372036854775807:=by
 obtain ⟨xs,m,_,_,hcl,hxl,hi⟩:=DataW.trod_struct Tryz.underlying29 h;have hxl':xs.length=1:=hxl;have a0:DataW.trod enc Tryz.prog w base spare held m 27 ((cs.drop 0).take (Tryz.prog.cellsOf 27))=xs[0]?:=hi 0 _ rfl;rw [Zg (by omega)] at a0;obtain ⟨A,n,c,e0⟩:=Qdt Tryz.underlying27 a0;rw [e0] at a0;obtain ⟨l,hl,hnc,hcm,_,hr⟩:=Qdz Tryz.underlying27 (k:=1) (by kernel_rfl) (by omega) (fun cs (l:List Int)=>∃ A n c,cs=[.slice A n c]∧RdI w A n l∧n≤c∧c≤9223372036854775807) rel_row a0;rw [show Tryz.prog.cellsOf 29=1 by kernel_rfl] at hcl
 rw [show Tryz.prog.cellsOf 27=1 by kernel_rfl] at e0
 clear a0 hi h;obtain ⟨c0,rfl⟩:=list_one hcl;simp at e0;refine ⟨A,n,c,l,by simp [e0],⟨hl,fun i p hp=>?_⟩,hnc,hcm⟩;obtain ⟨b,o,vs,e,⟨A',n',c',e2,h1,h2,h3⟩,_,hv⟩:=hr i p hp;subst e2;exact ⟨b,o,A',n',c',e,by have:=hv 0 _ rfl;simpa using this,h1,h2,h3⟩
theorem rel_vert (fuel:Nat)(cs:List Value)(x:DataW H×List MemPlace)(h:DataW.trod enc Tryz.prog w base spare held fuel 138 cs=some x):∃ p:Tri,cs=[.int .i64 p.1,.int .i64 p.2.1,.int .i64 p.2.2]:=by
 obtain ⟨xs,m,_,_,hcl,hxl,hi⟩:=DataW.trod_struct Tryz.underlying138 h;have hxl':xs.length=3:=hxl;have a0:DataW.trod enc Tryz.prog w base spare held m 3 ((cs.drop 0).take (Tryz.prog.cellsOf 3))=xs[0]?:=hi 0 _ rfl;have a1:DataW.trod enc Tryz.prog w base spare held m 3 ((cs.drop 1).take (Tryz.prog.cellsOf 3))=xs[1]?:=hi 1 _ rfl;have a2:DataW.trod enc Tryz.prog w base spare held m 3 ((cs.drop 2).take (Tryz.prog.cellsOf 3))=xs[2]?:=hi 2 _ rfl;rw [Zg (by omega)] at a0 a1 a2;obtain ⟨n0,e0,_⟩:=DataW.trod_int Tryz.underlying3 a0;obtain ⟨n1,e1,_⟩:=DataW.trod_int Tryz.underlying3 a1;obtain ⟨n2,e2,_⟩:=DataW.trod_int Tryz.underlying3 a2;rw [show Tryz.prog.cellsOf 138=3 by kernel_rfl] at hcl
 rw [show Tryz.prog.cellsOf 3=1 by kernel_rfl] at e0 e1 e2
 clear a0 a1 a2 hi h;obtain ⟨c0,c1,c2,rfl⟩:=Qga hcl;simp at e0 e1 e2;exact ⟨(n0,n1,n2),by simp [e0,e1,e2]⟩
theorem rel_arc (fuel:Nat)(cs:List Value)(x:DataW H×List MemPlace)(h:DataW.trod enc Tryz.prog w base spare held fuel 73 cs=some x):∃ p:Tri,cs=[.int .i64 p.1,.int .i64 p.2.1,.int .i64 p.2.2]:=by
 obtain ⟨xs,m,_,_,hcl,hxl,hi⟩:=DataW.trod_struct Tryz.underlying73 h;have hxl':xs.length=3:=hxl;have a0:DataW.trod enc Tryz.prog w base spare held m 3 ((cs.drop 0).take (Tryz.prog.cellsOf 3))=xs[0]?:=hi 0 _ rfl;have a1:DataW.trod enc Tryz.prog w base spare held m 3 ((cs.drop 1).take (Tryz.prog.cellsOf 3))=xs[1]?:=hi 1 _ rfl;have a2:DataW.trod enc Tryz.prog w base spare held m 2 ((cs.drop 2).take (Tryz.prog.cellsOf 2))=xs[2]?:=hi 2 _ rfl;rw [Zg (by omega)] at a0 a1 a2;obtain ⟨n0,e0,_⟩:=DataW.trod_int Tryz.underlying3 a0;obtain ⟨n1,e1,_⟩:=DataW.trod_int Tryz.underlying3 a1;obtain ⟨n2,e2,_⟩:=DataW.trod_int Tryz.underlying2 a2;rw [show Tryz.prog.cellsOf 73=3 by kernel_rfl] at hcl
 rw [show Tryz.prog.cellsOf 3=1 by kernel_rfl] at e0 e1
 rw [show Tryz.prog.cellsOf 2=1 by kernel_rfl] at e2
 clear a0 a1 a2 hi h;obtain ⟨c0,c1,c2,rfl⟩:=Qga hcl;simp at e0 e1 e2;exact ⟨(n0,n1,n2),by simp [e0,e1,e2]⟩
def TabCs (w:World)(cs:List Value)(t:Qdb):Prop:=∃ (A:Option Addr) (n c:Nat),cs=[.int .i64 t.ins,.int .i64 t.outs,.slice A n c]∧RdI w A n t.costs∧n≤c∧c≤9223372036854775807
theorem rel_tab (fuel:Nat)(cs:List Value)(x:DataW H×List MemPlace)(h:DataW.trod enc Tryz.prog w base spare held fuel 75 cs=some x):∃ t:Qdb,TabCs w cs t:=by
 obtain ⟨xs,m,_,_,hcl,hxl,hi⟩:=DataW.trod_struct Tryz.underlying75 h;have hxl':xs.length=3:=hxl;have a0:DataW.trod enc Tryz.prog w base spare held m 3 ((cs.drop 0).take (Tryz.prog.cellsOf 3))=xs[0]?:=hi 0 _ rfl;have a1:DataW.trod enc Tryz.prog w base spare held m 3 ((cs.drop 1).take (Tryz.prog.cellsOf 3))=xs[1]?:=hi 1 _ rfl;have a2:DataW.trod enc Tryz.prog w base spare held m 30 ((cs.drop 2).take (Tryz.prog.cellsOf 30))=xs[2]?:=hi 2 _ rfl;rw [Zg (by omega)] at a0 a1 a2;obtain ⟨n0,e0,_⟩:=DataW.trod_int Tryz.underlying3 a0;obtain ⟨n1,e1,_⟩:=DataW.trod_int Tryz.underlying3 a1;obtain ⟨A,n,c,e2⟩:=Qdt Tryz.underlying30 a2;rw [e2] at a2;obtain ⟨l,h1,h2,h3,_,_⟩:=Qfv Tryz.underlying30 Tryz.underlying2 (by kernel_rfl) a2;rw [show Tryz.prog.cellsOf 75=3 by kernel_rfl] at hcl
 rw [show Tryz.prog.cellsOf 3=1 by kernel_rfl] at e0 e1
 rw [show Tryz.prog.cellsOf 30=1 by kernel_rfl] at e2
 clear a0 a1 a2 hi h;obtain ⟨c0,c1,c2,rfl⟩:=Qga hcl;simp at e0 e1 e2;exact ⟨⟨n0,n1,l⟩,A,n,c,by simp [e0,e1,e2],h1,h2,h3⟩
theorem Qmr {cs:List Value}{fuel:Nat}{x:DataW H×List MemPlace}(h:DataW.trod enc Tryz.prog w base spare held fuel 26 cs=some x) :
 ∃ (A B C:Option Addr) (n m k c d e:Nat) (N:Qaj),cs=[.slice A n c,.slice B m d,.slice C k e]∧Qbo w A B C n m k N∧k≤9223372036854775807:=by
 obtain ⟨xs,f,_,_,hcl,hxl,hi⟩:=DataW.trod_struct Tryz.underlying26 h;have hxl':xs.length=3:=hxl;have a0:DataW.trod enc Tryz.prog w base spare held f 22 ((cs.drop 0).take (Tryz.prog.cellsOf 22))=xs[0]?:=hi 0 _ rfl;have a1:DataW.trod enc Tryz.prog w base spare held f 23 ((cs.drop 1).take (Tryz.prog.cellsOf 23))=xs[1]?:=hi 1 _ rfl;have a2:DataW.trod enc Tryz.prog w base spare held f 24 ((cs.drop 2).take (Tryz.prog.cellsOf 24))=xs[2]?:=hi 2 _ rfl;rw [Zg (by omega)] at a0 a1 a2;obtain ⟨A,n,c,e0⟩:=Qdt Tryz.underlying22 a0;obtain ⟨B,m,d,e1⟩:=Qdt Tryz.underlying23 a1;obtain ⟨C,k,e,e2⟩:=Qdt Tryz.underlying24 a2;rw [e0] at a0;rw [e1] at a1;rw [e2] at a2;obtain ⟨vs,hl0,_,_,_,hr0⟩:=Qdz Tryz.underlying22 (k:=3) (by kernel_rfl) (by omega) (fun cs (p:Tri)=>cs=[.int .i64 p.1,.int .i64 p.2.1,.int .i64 p.2.2]) rel_vert a0;obtain ⟨ar,hl1,_,_,_,hr1⟩:=Qdz Tryz.underlying23 (k:=3) (by kernel_rfl) (by omega) (fun cs (p:Tri)=>cs=[.int .i64 p.1,.int .i64 p.2.1,.int .i64 p.2.2]) rel_arc a1;obtain ⟨ts,hl2,hkc,hcm,_,hr2⟩:=Qdz Tryz.underlying24 (k:=3) (by kernel_rfl) (by omega) (TabCs w) rel_tab a2;rw [show Tryz.prog.cellsOf 26=3 by kernel_rfl] at hcl
 rw [show Tryz.prog.cellsOf 22=1 by kernel_rfl] at e0
 rw [show Tryz.prog.cellsOf 23=1 by kernel_rfl] at e1
 rw [show Tryz.prog.cellsOf 24=1 by kernel_rfl] at e2
 clear a0 a1 a2 hi h;obtain ⟨c0,c1,c2,rfl⟩:=Qga hcl;simp at e0 e1 e2;refine ⟨A,B,C,n,m,k,c,d,e,⟨vs,ar,ts⟩,by simp [e0,e1,e2],⟨⟨hl0,fun i p hp=>?_⟩,⟨hl1,fun i p hp=>?_⟩,⟨hl2,fun i p hp=>?_⟩⟩,by omega⟩
 · obtain ⟨b,o,us,e5,rfl,_,hv⟩:=hr0 i p hp
   exact ⟨b,o,e5,by have:=hv 0 _ rfl;simpa using this,hv 1 _ rfl,hv 2 _ rfl⟩
 · obtain ⟨b,o,us,e5,rfl,_,hv⟩:=hr1 i p hp
   exact ⟨b,o,e5,by have:=hv 0 _ rfl;simpa using this,hv 1 _ rfl,hv 2 _ rfl⟩
 · obtain ⟨b,o,us,e5,⟨A',n',c',rfl,h1,h2,h3⟩,_,hv⟩:=hr2 i p hp
   exact ⟨b,o,e5,by have:=hv 0 _ rfl;simpa using this,hv 1 _ rfl,A',n',c',hv 2 _ rfl,h1,h2,h3⟩
end
end Go.Proofs.YthoagdpakddbdaaGreatDoor
namespace Go.Proofs.YthoagdpakddbdaaGreatDoor
open Go.ChangeShapes Go.WideShapes Go.ChangeAt Go.RowKit Go.Deep
theorem et_ : Tryz.prog.globalNamed "errors.errorType" = some 0 := by kernel_rfl
theorem rt_ : (Tryz.prog.cutTypes.find? (·.1 == "internal/reflectlite.rtype")).map (·.2) = some 213 := by kernel_rfl
theorem oneRow_:((List.range 326).filter fun t=>Tryz.prog.rowNamed t [101,114,114,111,114])=[42]:=by kernel_rfl
theorem size_:Tryz.prog.types.size=326:=by kernel_rfl
theorem Qem {W : World} (h : laidMetH Tryz.prog [("errors.errorType", Rows.laid_errors_errorType)] W) : W.cell? ⟨0, 0, none⟩ = some Qmc := by
 have h' : laidMet Tryz.prog [] W ∧ handlesMet Tryz.prog [("errors.errorType", Rows.laid_errors_errorType)] W := h
 obtain ⟨name,u,ty,e1,e2,e3,e4,e5⟩:=h'.2 _ (List.mem_singleton.2 rfl);have en:name=[101,114,114,111,114]:=(Option.some.inj e1).symm;subst en;obtain rfl:=Option.some.inj (rt_.symm.trans e2);have hm:ty∈(List.range 326).filter fun t=>Tryz.prog.rowNamed t [101,114,114,111,114]:=List.mem_filter.2 ⟨List.mem_range.2 (by rw [←size_];exact e3),e4⟩
 rw [oneRow_] at hm;obtain rfl:=List.mem_singleton.1 hm;have hh:typeHandle Tryz.prog 42=.pointer (some ⟨1,42,none⟩):=by kernel_rfl
 rw [hh] at e5;unfold Qmc
 simpa using World.var?_cell et_ e5 0
noncomputable def Qho (os:Os):World :=
 let w0:=World.holding Tryz.prog os ⟨#[],#[],[]⟩
 { w0 with heap:=w0.heap.modify 0 fun
  | .cells _ t frozen=>.cells #[Qmc] t frozen
  | o=>o }
theorem Qfc (os : Os) (args : Array Value) : laidMetH Tryz.prog [("errors.errorType", Rows.laid_errors_errorType)] ((Qho os).forCall (fun _ _ => 0) ⟨#[], args, []⟩).memory :=
 laidMetH_of_parts (laidMet_nil _ _) (by kernel_rfl)
end Go.Proofs.YthoagdpakddbdaaGreatDoor
