/- Parts of the proof: Pe, Sf, Open, OpN, Laid. -/
import Derived.Test.YtdheeddnkdhfeaaGreatDoorA28
import Derived.Test.YtdheeddnkdhfeaaGreatDoorRows
import Derived.ProofKit
import Derived.OpenShut
import Derived.Deep.Slices
import Derived.SizedLaws
import Derived.ChangeArms
import Derived.Test.YtdheeddnkdhfeaaGreatDoorTie
import Derived.Test.YtdheeddnkdhfeaaGreatDoorCards
import Derived.Handed
import Derived.ChangeSame
import Derived.ChangeVars
import Derived.JoinedOf
import Derived.LaidLaws
import Derived.LaidHandle
import Derived.SevenTiedAt
namespace Go.Proofs.YtdheeddnkdhfeaaGreatDoor
open Go.RowKit Go.Proofs.Tryz
attribute [local go_sem ↓] Go.wp_at_zero Go.wp_at_succ
theorem Qre {n:Nat} {p:Option (List Int)} {l:List Int} (h:Qep n p l=0):Qfx n l∧∀ q,p=some q→Qdo q l:=by
 unfold Qep at h
 split at h
 · cases h
 · split at h
   · assumption
   · cases h
set_option maxHeartbeats 2000000 in
set_option maxRecDepth 20000 in
theorem Qmp (Q:Option Addr)(n L cq:Nat) (ls:List (List Int)) (w:World) (h:RdT w Q L ls) :
 Calls prog 86 #[.int .i64 n,.agg #[.slice Q L cq],.slice none 0 0] w fun e w'=>Qbw (Qaw n ls) e∧Below w.heap.size w w':=by
 have HT:=Zh h;clear h
 by_cases q0:(n:Int) > 4096
 · go_enter func86,ntmps86
   go_wp2_with fail
   (refine Qae ?_;intro w5 hw5)
   have hB5:Blk w5 (w.heap.size+1) 66 #[.slice none 0 0,.int .i64 0]:=by rw [hw5];exact Qbh
   have hb5:Below w.heap.size w w5:=by rw [hw5];exact Qah
   exact Kaw
 by_cases q1:(L:Int) > 6
 · go_enter func86,ntmps86
   go_wp2_with fail
   (refine Qae ?_;intro w5 hw5)
   have hB5:Blk w5 (w.heap.size+1) 66 #[.slice none 0 0,.int .i64 0]:=by rw [hw5];exact Qbh
   have hb5:Below w.heap.size w w5:=by rw [hw5];exact Qah
   exact Kaw
 by_cases q2:L=0
 · have j1:((L:Int) == 0)=true:=by simp;exact q2
   go_enter func86,ntmps86
   go_wp2_with fail
   (refine Qae ?_;intro w5 hw5)
   have hB5:Blk w5 (w.heap.size+1) 66 #[.slice none 0 0,.int .i64 0]:=by rw [hw5];exact Qbh
   have hb5:Below w.heap.size w w5:=by rw [hw5];exact Qah
   clear hw5;with_reducible refine (Qav _ _ _ _).mono ?_
   rintro e w2 ⟨⟨A4,n4,m4,rfl,hg4⟩,hb⟩;have hB2:=Blk.below hB5 hb hB5.lt;obtain ⟨c0,c1,f0,f1⟩:=hB2.two;have hb2:Below w.heap.size w w2:=Zb hb5 hb
   go_wp2_with fail
   refine bodyPost_ret (v:=.agg #[.slice A4 n4 m4,.int .i64 1]) (by simp [results,results86,go_sem,c0,c1]) rfl ?_
   exact Kad
 have j1:((L:Int) == 0)=false:=by simp;exact q2
 go_enter func86,ntmps86
 go_wp2_with fail
 (refine Qai ?_;intro w1 hw1)
 have hb1:Below w.heap.size w w1:=by rw [hw1];exact Qah
 have hQ:Blk w1 w.heap.size 29 #[.slice Q L cq]:=by rw [hw1];exact Qbh
 have hB:Blk w1 (w.heap.size+1) 66 #[.slice none 0 0,.int .i64 0]:=by rw [hw1];exact Qbh
 clear hw1
 go_loopw [7] (fun q W=>Below w.heap.size w W∧Blk W w.heap.size 29 #[.slice Q L cq]∧Blk W (w.heap.size+1) 66 #[.slice none 0 0,.int .i64 0]∧∃ i:Nat,i≤L∧q=.int .i64 ((i:Int)+1)∧∀ (j:Nat) (l:List Int),j<i→ls[j]?=some l→Qfx n l∧∀ q,Qfw ls j=some q→Qdo q l) (fun q _=>L+1-(intOf q).toNat)
 case atStart=>exact ⟨hb1,hQ,hB,0,Nat.zero_le _,rfl,fun _ _ h=>absurd h (Nat.not_lt_zero _)⟩
 case round =>
  clear hb1 hQ hB;obtain ⟨hbl,hQ,hB,i,hi,rfl,hall⟩:=hrel;have HA:=Zh hall;clear hall;have y0:=hQ.cell 0;simp only [Yo,Yn] at y0
  by_cases hlt:i<L
  · obtain ⟨l,hl⟩:∃ l,ls[i]?=some l:=⟨_,Zg (by rw [HT.out.1];exact hlt)⟩
    have HCL:=Zh (Qky Q n L cq i ls l wr (HT.out.below hbl) hl (by omega) (by omega) (fun j p e hp=>(HA.out j p (by omega) hp).1.len));have HLL:=Zh hl;have HI:=Zh (@Qre n (Qfw ls i) l);have i1:(i:Int)+1≤(L:Int):=by omega
    clear hl;generalize Qep n (Qfw ls i) l=code at *
    go_wp2_with fail
    with_reducible refine HCL.out.mono ?_
    rintro e w2 ⟨rfl,hb2⟩;have hQ2:=hQ.below hb2 hQ.lt;have hB2:=hB.below hb2 hB.lt;have hbw2:=Zb hbl hb2;clear hQ hB y0 HCL hb2
    by_cases hc:code=0
    · subst hc
      have HO:=Zh (HI.out rfl);clear HI
      go_wp2_with fail
      go_roundw
      case rel=>exact ⟨hbw2,hQ2,hB2,i+1,by omega,by go_num,fun j l' hj hl'=>by
       by_cases e:j=i
       · subst e
         rw [HLL.out] at hl'
         cases hl'
         exact HO.out
       · exact HA.out j l' (by omega) hl'⟩
      case measure=>simp [intOf];omega
    · have e1:(code == 0)=false:=by simpa using hc
      have e2:(code != 0)=true:=by simpa using hc
      have HC:=Zh hc;clear hc
      go_wp2_with fail
      with_reducible refine (Qav _ _ _ _).mono ?_
      rintro e w3 ⟨⟨A4,n4,m4,rfl,hg4⟩,hb3⟩;have hB3:=hB2.below hb3 hB2.lt;obtain ⟨c0,c1,f0,f1⟩:=hB3.two;have hbw3:=Zb hbw2 hb3
      go_wp2_with fail
      refine bodyPost_ret (v:=.agg #[.slice A4 n4 m4,.int .i64 code]) (by simp [results,results86,go_sem,c0,c1]) rfl ?_;exact ⟨Qbw.no HC.out,Qah⟩
  · obtain rfl:L=i:=by omega
    obtain ⟨c0,c1,f0,f1⟩:=hB.two;have zB:=hB.lt
    have HP:=Zh (show Qaw n ls from ⟨by rw [HT.out.1];omega,by rw [HT.out.1];omega,fun l hl=>by
     obtain ⟨j,hj⟩:=Yr hl;exact (HA.out j l (by rw [←HT.out.1];exact (Zs hj).1) hj).1,fun j p l hp hl=>(HA.out (j+1) l (by rw [←HT.out.1];exact (Zs hl).1) hl).2 p (by rw [Qhb];exact hp)⟩)
    clear HA
    go_wp2_with fail
    refine bodyPost_ret (v:=.agg #[.slice none 0 0,.int .i64 0]) (by simp [results,results86,go_sem,c0,c1]) rfl ?_;exact ⟨⟨_,_,_,_,rfl,.inl ⟨rfl,HP.out⟩⟩,Qah⟩
structure FewP (ls:List (List Int)):Prop where
 l:ls.length≤10
 r:∀ l∈ls,l.length≤60
set_option maxHeartbeats 1000000 in
theorem fewP_any (Q:Option Addr)(L cq:Nat) (ls:List (List Int)) (w:World) (h:RdT w Q L ls) (hL:L≤9223372036854775807) :
 Calls prog 85 #[.agg #[.slice Q L cq]] w fun e w'=>Qil (FewP ls) e∧Below w.heap.size w w':=by
 have HT:=Zh h;have HLE:=Zh h.1;clear h
 go_enter func85,ntmps85
 go_wp2_with fail
 (refine Qai ?_;intro w1 hw1)
 have hb1:Below w.heap.size w w1:=by rw [hw1];exact Qah
 have hQ:Blk w1 w.heap.size 29 #[.slice Q L cq]:=by rw [hw1];exact Qbh
 have H1:=Zh (HT.out.below hb1);clear hw1;have y0:=hQ.cell 0;simp only [Yo,Yn] at y0
 go_loop [3] (fun q=>∃ i:Nat,i≤L∧q=.int .i64 i∧∀ j l,j<i→ls[j]?=some l→l.length≤60) (fun q=>L-(intOf q).toNat)
 case atStart=>exact ⟨0,Nat.zero_le _,rfl,fun _ _ h=>absurd h (Nat.not_lt_zero _)⟩
 case round =>
  obtain ⟨i,hi,rfl,hall⟩:=hrel;have HA:=Zh hall;clear hall
  by_cases hlt:i<L
  · obtain ⟨b,o,A,n,c,l,rfl,hl,hc,hr,q1,q2⟩:=H1.out.at_ hlt
    have i1:(0:Int)≤(i:Int):=by omega
    have i2:(i:Int)<(L:Int):=by omega
    have HLL:=Zh hl;have HR:=Zh hr.1;clear hl hr
    by_cases q3:(n:Int) > 60
    · go_wp2_with fail
      go_ret
      exact ⟨⟨false,rfl,fun h=>by cases h⟩,hb1⟩
    · go_wp2_with fail
      go_round
      case rel=>exact ⟨i+1,by omega,by go_num,fun j l' hj hl'=>by
       by_cases e:j=i
       · subst e
         rw [HLL.out] at hl'
         cases hl'
         rw [HR.out];omega
       · exact HA.out j l' (by omega) hl'⟩
      case measure=>simp [intOf];omega
  · obtain rfl:L=i:=by omega
    go_wp2_with fail
    go_ret
    refine ⟨⟨_,rfl,fun h=>⟨by rw [HLE.out];have:=of_decide_eq_true h;omega,fun l hl=>?_⟩⟩,hb1⟩;obtain ⟨j,hj⟩:=Yr hl;exact HA.out j l (by rw [←HLE.out];exact (Zs hj).1) hj
set_option maxHeartbeats 1000000 in
theorem Qxg (Q:Option Addr)(n L cq:Nat) (ls:List (List Int)) (w:World) (h:RdT w Q L ls) (hL:L≤9223372036854775807) :
 Calls prog 38 #[.int .i64 n,.agg #[.slice Q L cq]] w fun e w'=>Qil (FewP ls∧n≤60∧Qaw n ls) e∧Below w.heap.size w w':=by
 have HT:=Zh h;clear h
 go_enter func38,ntmps38
 go_wp2_with fail
 (refine Qae ?_;intro w1 hw1)
 have hb1:Below w.heap.size w w1:=by rw [hw1];exact Qah
 have hQ:Blk w1 w.heap.size 29 #[.slice Q L cq]:=by rw [hw1];exact Qbh
 clear hw1;with_reducible refine (fewP_any Q L cq ls w1 (HT.out.below hb1) hL).mono ?_
 rintro e w2 ⟨⟨bb,rfl,hf⟩,hb2⟩;have hbw2:=Zb hb1 hb2;have y0:=(hQ.below hb2 hQ.lt).cell 0;simp only [Yo,Yn] at y0;clear hQ hb2
 cases bb
 · go_wp2_with fail
   exact Kco
 have HF:=Zh (hf rfl);clear hf
 by_cases q0:(n:Int)≤60
 rotate_left
 · go_wp2_with fail
   exact Kco
 go_wp2_with fail
 with_reducible refine (Qmp Q n L cq ls w2 (HT.out.below hbw2)).mono ?_
 rintro e w3 ⟨⟨A4,k4,c4,x,rfl,hx⟩,hb3⟩;have hbw3:=Zb hbw2 hb3;have hfe:=Qrx A4 k4 c4 x w3;clear y0
 rcases hx with ⟨rfl,hG⟩|hx
 · have HG:=Zh hG
   clear hG
   go_wp2_with fail
   go_ret
   exact ⟨⟨true,rfl,fun _=>⟨HF.out,by omega,HG.out⟩⟩,hbw3⟩
 · go_wp2_with fail
   go_ret
   exact ⟨⟨_,rfl,fun h=>absurd (by simpa using h) hx⟩,hbw3⟩
structure MayOk (N:Qam) (ls:List (List Int)):Prop where
 small:Qwa N
 few:FewP ls
 part:Qaw N.vs.length ls
set_option maxHeartbeats 1000000 in
theorem Qpe (A B C Q:Option Addr)(n m k c d e L cq:Nat)(N:Qam) (ls:List (List Int)) (w:World) (h:Qce w A B C n m k N) (hk:k≤9223372036854775807) (hq:RdT w Q L ls) (hL:L≤9223372036854775807) :
 Calls prog 9 #[.agg #[.slice A n c,.slice B m d,.slice C k e],.agg #[.slice Q L cq]] w fun e w'=>Qil (MayOk N ls) e∧Below w.heap.size w w':=by
 have HH:=Zh h;have HT:=Zh hq;have HLV:=Zh h.1.1;clear h hq
 go_enter func9,ntmps9
 go_wp2_with fail
 (refine Qae ?_;intro w1 hw1)
 have hb1:Below w.heap.size w w1:=by rw [hw1];exact Qah
 have hN:Blk w1 w.heap.size 26 #[.slice A n c,.slice B m d,.slice C k e]:=by rw [hw1];exact Qbh
 have hQ:Blk w1 (w.heap.size+1) 29 #[.slice Q L cq]:=by rw [hw1];exact Qbh
 clear hw1;with_reducible refine (Qwo A B C n m k c d e N w1 (HH.out.below hb1) hk).mono ?_
 rintro r w2 ⟨⟨bb,rfl,hf⟩,hb2⟩;have hbw2:=Zb hb1 hb2;have y0:=(hQ.below hb2 hQ.lt).cell 0;simp only [Yo,Yn] at y0;obtain ⟨n0,n1,n2⟩:=(hN.below hb2 hN.lt).three;clear hQ hb2 hN
 cases bb
 · go_wp2_with fail
   exact Kco
 have HF:=Zh (hf rfl);clear hf
 go_wp2_with fail
 with_reducible refine (Qxg Q n L cq ls w2 (HT.out.below hbw2) hL).mono ?_
 rintro r w3 ⟨⟨bb,rfl,hf⟩,hb3⟩;have HF2:=Zh hf;have hbw3:=Zb hbw2 hb3;clear hf
 go_wp2_with fail
 go_ret
 exact ⟨⟨bb,rfl,fun h=>⟨HF.out,(HF2.out h).1,by rw [HLV.out];exact (HF2.out h).2.2⟩⟩,hbw3⟩
theorem Qfs {N:Qam} {ls:List (List Int)} (h:MayOk N ls):Qbx (Qac N.ar ls)≤1000000000:=by
 have hA:=h.small.a;have hv:=h.small.v;have h6:=h.part.l6
 have hx:∀ x∈(Qac N.ar ls).map Qdv,x≤194400:=fun z hz=>by
  obtain ⟨row,hr,rfl⟩:=List.mem_map.1 hz;obtain ⟨l,hl,rfl⟩:=List.mem_map.1 hr
  have hm:∀ y∈(Qaf N.ar l).map szG,y≤8100:=fun y hy=>by
   obtain ⟨x,hx,rfl⟩:=List.mem_map.1 hy;obtain ⟨c,hc⟩:=Yr hx;have g:=Qbi hc;unfold szG;have:=Nat.mul_le_mul (show x.1.length≤90 by omega) (show x.2.length≤90 by omega)
   omega
  have h1:=Qta hm;have h2:=h.part.lvl l hl;have h3:=Qch (l:=l) (n:=(N.vs.length:Int)) (fun x hx=>h2.hi x hx) (by omega);rw [List.length_map,Qan] at h1;have h4:(Qar l).toNat*8100≤24*8100:=Nat.mul_le_mul_right _ (by omega);unfold Qdv;omega
 have h1:=Qta hx;rw [List.length_map,show (Qac N.ar ls).length=ls.length by simp [Qac]] at h1
 have h4:ls.length*194400≤6*194400:=Nat.mul_le_mul_right _ (by omega);unfold Qbx;omega
end Go.Proofs.YtdheeddnkdhfeaaGreatDoor
namespace Go.Proofs.YtdheeddnkdhfeaaGreatDoor
open Go.ChangeShapes Go.WideShapes Go.ChangeAt Go.RowKit Go.Deep
theorem own_:ownKnob Tryz.prog.godebug=none:=by kernel_rfl
theorem Qje:laidOutB Tryz.prog=true:=by kernel_rfl
theorem Qwz {α:Type}{p:Nat→α→Prop}:∀ (n:Nat),(∀ i,i<n→∃ a,p i a)→∃ l:List α,l.length=n∧∀ i a,l[i]?=some a→p i a
 | 0,_=>⟨[],rfl,fun i a h=>by simp at h⟩
 | n+1,h=>by
  obtain ⟨l,hl,hp⟩:=Qwz n (fun i hi=>h i (by omega));obtain ⟨a,ha⟩:=h n (by omega);refine ⟨l ++[a],by simp [hl],fun i b hb=>?_⟩
  rcases Nat.lt_or_ge i n with h1|h1
  · rw [Yc (by omega)] at hb;exact hp i b hb
  · rw [Yb (by omega),hl] at hb
    have:i=n:=by
     rcases Nat.lt_or_ge (i-n) 1 with h2|h2
     · omega
     · rw [Yd (by simpa using h2)] at hb;cases hb
    subst this;simp at hb;subst hb;exact ha
section
variable {H:Type} {enc:TypeId×Value→H} {P:Program} {w:World} {base:Nat} {spare:Nat→Bool} {held:Bool}
theorem Qez {α:Type}{t e k:Nat} (ht:P.underlying t=some (.slice e)) (hk:P.cellsOf e=k) (hk0:0<k) (Rel:List Value→α→Prop)
 (hel:∀ (fuel:Nat) (cs:List Value) (x:DataW H×List MemPlace),DataW.trod enc P w base spare held fuel e cs=some x→∃ a,Rel cs a)
 {A:Option Addr} {n c fuel:Nat} {x:DataW H×List MemPlace} (h:DataW.trod enc P w base spare held fuel t [.slice A n c]=some x) :
 ∃ l:List α,l.length=n∧n≤c∧c≤9223372036854775807∧(n=0∨∃ el sp,x.1=.slice el sp∧el.length=n) ∧
  ∀ i a,l[i]?=some a→∃ b o vs,A=some ⟨b,o,none⟩∧Rel vs a∧vs.length=k∧∀ j v,vs[j]?=some v→w.cell? ⟨b,o+i*k+j,none⟩=some v:=by
 rcases open_slice ht h with ⟨h0,_⟩|⟨a,len,cap,m,n',D,Pl,hcs,hb,hl,hm,hmm,hx,hi⟩
 · simp only [List.cons.injEq,Value.slice.injEq,and_true] at h0
   obtain ⟨rfl,rfl,rfl⟩:=h0;exact ⟨[],rfl,Zn _,by omega,.inl rfl,fun i a h=>by simp at h⟩
 · simp only [List.cons.injEq,Value.slice.injEq,and_true] at hcs
   obtain ⟨rfl,rfl,rfl⟩:=hcs;have hlm:n≤m:=by rw [hmm];split <;> omega
   obtain ⟨l,hll,hlp⟩:=Qwz (p:=fun i (y:α)=>∃ vs,Rel vs y∧vs.length=k∧∀ j v,vs[j]?=some v→w.cell? ((a.add (i*k)).add j)=some v) n (fun i hin=>by
    obtain ⟨cs',hc,ht'⟩:=hi i (by omega);rw [hk] at hc;obtain ⟨_,hlen,hat⟩:=World.cells?_some hc;obtain ⟨y,hy⟩:=hel _ _ _ ht';refine ⟨y,cs',hy,hlen,fun j v hv=>?_⟩;have hj:j<k:=by rw [←hlen];exact (Zs hv).1
    rw [hat j hj,hv])
   refine ⟨l,hll,hl,(by unfold maxLen at hm;omega),.inr ⟨_,_,by rw [hx],by simp⟩,fun i y hy=>?_⟩;obtain ⟨vs,h1,h2,h3⟩:=hlp i y hy
   have hspot:a.spot=none:=by
    have h4:=h3 0 vs[0] (Zg (by omega));have h5:=World.cell?_spot h4;unfold Addr.add at h5
    by_cases h6:i*k=0
    · simpa [h6] using h5
    · have hl0:l.length=n:=hll
      have h7:0<n:=by
       have:=(Zs hy).1;omega
      obtain ⟨y0,hy0⟩:∃ y0,l[0]?=some y0:=⟨l[0],Zg (by omega)⟩;obtain ⟨vs0,g1,g2,g3⟩:=hlp 0 y0 hy0;have g4:=World.cell?_spot (g3 0 vs0[0] (Zg (by omega)))
      simpa [Addr.add] using g4
   obtain ⟨b,o,sp⟩:=a;simp only at hspot;subst hspot;refine ⟨b,o,vs,rfl,h1,h2,fun j v hv=>?_⟩;have:=h3 j v hv;unfold Addr.add at this
   by_cases h6:i*k=0
   · by_cases h7:j=0
     · simpa [h6,h7] using this
     · simpa [h6,h7] using this
   · by_cases h7:j=0
     · simpa [h6,h7] using this
     · simpa [h6,h7] using this
theorem rel_int {k:IntKind}{e:Nat} (he:P.underlying e=some (.int k)) (fuel:Nat) (cs:List Value) (x:DataW H×List MemPlace) (h:DataW.trod enc P w base spare held fuel e cs=some x) :
 ∃ n:Int,cs=[.int k n]∧(Lit.int k n).wf=true:=by
 obtain ⟨n,h1,_,h3⟩:=DataW.trod_int he h;exact ⟨n,h1,h3⟩
theorem rel_bool {e:Nat}(he:P.underlying e=some .bool)(fuel:Nat)(cs:List Value)(x:DataW H×List MemPlace)(h:DataW.trod enc P w base spare held fuel e cs=some x) :
 ∃ n:Bool,cs=[.bool n]:=by
 obtain ⟨n,h1,_⟩:=DataW.trod_bool he h;exact ⟨n,h1⟩
theorem open_bools {t e:Nat} (ht:P.underlying t=some (.slice e)) (he:P.underlying e=some .bool) (hc:P.cellsOf e=1)
 {A:Option Addr} {n c fuel:Nat} {x:DataW H×List MemPlace} (h:DataW.trod enc P w base spare held fuel t [.slice A n c]=some x) :
 ∃ l:List Bool,RdB w A n l∧n≤c∧c≤9223372036854775807∧(n=0∨∃ el sp,x.1=.slice el sp∧el.length=n):=by
 obtain ⟨l,hl,hnc,hcm,hsz,hr⟩:=Qez ht hc (by omega) (fun cs (p:Bool)=>cs=[.bool p]) (rel_bool he) h;refine ⟨l,⟨hl,fun i p hp=>?_⟩,hnc,hcm,hsz⟩;obtain ⟨b,o,vs,rfl,rfl,_,hv⟩:=hr i p hp;exact ⟨b,o,rfl,by have:=hv 0 _ rfl;simpa using this⟩
theorem Qmf {k:IntKind}{t e:Nat} (ht:P.underlying t=some (.slice e)) (he:P.underlying e=some (.int k)) (hc:P.cellsOf e=1)
 {A:Option Addr} {n c fuel:Nat} {x:DataW H×List MemPlace} (h:DataW.trod enc P w base spare held fuel t [.slice A n c]=some x) :
 ∃ l:List Int,RdK k w A n l∧n≤c∧c≤9223372036854775807∧(n=0∨∃ el sp,x.1=.slice el sp∧el.length=n)∧∀ a∈l,(Lit.int k a).wf=true:=by
 obtain ⟨l,hl,hnc,hcm,hsz,hr⟩:=Qez ht hc (by omega) (fun cs (p:Int)=>cs=[.int k p]∧(Lit.int k p).wf=true) (rel_int he) h;refine ⟨l,⟨hl,fun i p hp=>?_⟩,hnc,hcm,hsz,fun a ha=>?_⟩
 · obtain ⟨b,o,vs,rfl,⟨rfl,_⟩,_,hv⟩:=hr i p hp
   exact ⟨b,o,rfl,by have:=hv 0 _ rfl;simpa using this⟩
 · obtain ⟨i,hi,e1⟩:=List.getElem_of_mem ha
   obtain ⟨b,o,vs,_,⟨_,h2⟩,_,_⟩:=hr i a (by rw [Zg hi,e1]);exact h2
end
end Go.Proofs.YtdheeddnkdhfeaaGreatDoor
namespace Go.Proofs.YtdheeddnkdhfeaaGreatDoor
open Go.ChangeShapes Go.WideShapes Go.ChangeAt Go.RowKit Go.Deep
theorem list_one {α:Type}:∀ {l:List α},l.length=1→∃ a,l=[a]
 | [a],_=>⟨a,rfl⟩
theorem Qgh {α:Type}:∀ {l:List α},l.length=3→∃ a b c,l=[a,b,c]
 | [a,b,c],_=>⟨a,b,c,rfl⟩
section
variable {H:Type} {enc:TypeId×Value→H} {w:World} {base:Nat} {spare:Nat→Bool} {held:Bool}
theorem Qdx {t e:TypeId} (ht:Tryz.prog.underlying t=some (.slice e)) {fuel:Nat} {cs:List Value} {x:DataW H×List MemPlace} (h:DataW.trod enc Tryz.prog w base spare held fuel t cs=some x):∃ A n c,cs=[.slice A n c]:=by
 rcases open_slice ht h with ⟨h0,_⟩|⟨a,len,cap,m,n',D,Pl,hcs,_⟩
 · exact ⟨_,_,_,h0⟩
 · exact ⟨_,_,_,hcs⟩
theorem rel_row (fuel:Nat)(cs:List Value)(x:DataW H×List MemPlace)(h:DataW.trod enc Tryz.prog w base spare held fuel 61 cs=some x) :
 ∃ l:List Int,∃ A n c,cs=[.slice A n c]∧RdI w A n l∧n≤c∧c≤9223372036854775807:=by
 obtain ⟨A,n,c,rfl⟩:=Qdx Tryz.underlying61 h;obtain ⟨l,h1,h2,h3,_,_⟩:=Qmf Tryz.underlying61 Tryz.underlying3 (by kernel_rfl) h;exact ⟨l,A,n,c,rfl,h1,h2,h3⟩
theorem Qpr {cs:List Value}{fuel:Nat}{x:DataW H×List MemPlace}(h:DataW.trod enc Tryz.prog w base spare held fuel 29 cs=some x) :
 ∃ (A:Option Addr) (n c:Nat) (ls:List (List Int)),cs=[.slice A n c]∧RdT w A n ls∧n≤c∧c≤9223372036854775807:=by
 obtain ⟨xs,m,_,_,hcl,hxl,hi⟩:=DataW.trod_struct Tryz.underlying29 h;have hxl':xs.length=1:=hxl;have a0:DataW.trod enc Tryz.prog w base spare held m 27 ((cs.drop 0).take (Tryz.prog.cellsOf 27))=xs[0]?:=hi 0 _ rfl;rw [Zg (by omega)] at a0;obtain ⟨A,n,c,e0⟩:=Qdx Tryz.underlying27 a0;rw [e0] at a0;obtain ⟨l,hl,hnc,hcm,_,hr⟩:=Qez Tryz.underlying27 (k:=1) (by kernel_rfl) (by omega) (fun cs (l:List Int)=>∃ A n c,cs=[.slice A n c]∧RdI w A n l∧n≤c∧c≤9223372036854775807) rel_row a0;rw [show Tryz.prog.cellsOf 29=1 by kernel_rfl] at hcl
 rw [show Tryz.prog.cellsOf 27=1 by kernel_rfl] at e0
 clear a0 hi h;obtain ⟨c0,rfl⟩:=list_one hcl;simp at e0;refine ⟨A,n,c,l,by simp [e0],⟨hl,fun i p hp=>?_⟩,hnc,hcm⟩;obtain ⟨b,o,vs,e,⟨A',n',c',e2,h1,h2,h3⟩,_,hv⟩:=hr i p hp;subst e2;exact ⟨b,o,A',n',c',e,by have:=hv 0 _ rfl;simpa using this,h1,h2,h3⟩
theorem rel_vert (fuel:Nat)(cs:List Value)(x:DataW H×List MemPlace)(h:DataW.trod enc Tryz.prog w base spare held fuel 124 cs=some x):∃ p:Tri,cs=[.int .i64 p.1,.int .i64 p.2.1,.int .i64 p.2.2]:=by
 obtain ⟨xs,m,_,_,hcl,hxl,hi⟩:=DataW.trod_struct Tryz.underlying124 h;have hxl':xs.length=3:=hxl;have a0:DataW.trod enc Tryz.prog w base spare held m 3 ((cs.drop 0).take (Tryz.prog.cellsOf 3))=xs[0]?:=hi 0 _ rfl;have a1:DataW.trod enc Tryz.prog w base spare held m 3 ((cs.drop 1).take (Tryz.prog.cellsOf 3))=xs[1]?:=hi 1 _ rfl;have a2:DataW.trod enc Tryz.prog w base spare held m 3 ((cs.drop 2).take (Tryz.prog.cellsOf 3))=xs[2]?:=hi 2 _ rfl;rw [Zg (by omega)] at a0 a1 a2;obtain ⟨n0,e0,_⟩:=DataW.trod_int Tryz.underlying3 a0;obtain ⟨n1,e1,_⟩:=DataW.trod_int Tryz.underlying3 a1;obtain ⟨n2,e2,_⟩:=DataW.trod_int Tryz.underlying3 a2;rw [show Tryz.prog.cellsOf 124=3 by kernel_rfl] at hcl
 rw [show Tryz.prog.cellsOf 3=1 by kernel_rfl] at e0 e1 e2
 exact Kci
theorem rel_arc (fuel:Nat)(cs:List Value)(x:DataW H×List MemPlace)(h:DataW.trod enc Tryz.prog w base spare held fuel 119 cs=some x):∃ p:Tri,cs=[.int .i64 p.1,.int .i64 p.2.1,.int .i64 p.2.2]:=by
 obtain ⟨xs,m,_,_,hcl,hxl,hi⟩:=DataW.trod_struct Tryz.underlying119 h;have hxl':xs.length=3:=hxl;have a0:DataW.trod enc Tryz.prog w base spare held m 3 ((cs.drop 0).take (Tryz.prog.cellsOf 3))=xs[0]?:=hi 0 _ rfl;have a1:DataW.trod enc Tryz.prog w base spare held m 3 ((cs.drop 1).take (Tryz.prog.cellsOf 3))=xs[1]?:=hi 1 _ rfl;have a2:DataW.trod enc Tryz.prog w base spare held m 2 ((cs.drop 2).take (Tryz.prog.cellsOf 2))=xs[2]?:=hi 2 _ rfl;rw [Zg (by omega)] at a0 a1 a2;obtain ⟨n0,e0,_⟩:=DataW.trod_int Tryz.underlying3 a0;obtain ⟨n1,e1,_⟩:=DataW.trod_int Tryz.underlying3 a1;obtain ⟨n2,e2,_⟩:=DataW.trod_int Tryz.underlying2 a2;rw [show Tryz.prog.cellsOf 119=3 by kernel_rfl] at hcl
 rw [show Tryz.prog.cellsOf 3=1 by kernel_rfl] at e0 e1
 rw [show Tryz.prog.cellsOf 2=1 by kernel_rfl] at e2
 exact Kci
def TabCs (w:World)(cs:List Value)(t:Qfv):Prop:=∃ (A:Option Addr) (n c:Nat),cs=[.int .i64 t.ins,.int .i64 t.outs,.slice A n c]∧RdI w A n t.costs∧n≤c∧c≤9223372036854775807
theorem rel_tab (fuel:Nat)(cs:List Value)(x:DataW H×List MemPlace)(h:DataW.trod enc Tryz.prog w base spare held fuel 122 cs=some x):∃ t:Qfv,TabCs w cs t:=by
 obtain ⟨xs,m,_,_,hcl,hxl,hi⟩:=DataW.trod_struct Tryz.underlying122 h;have hxl':xs.length=3:=hxl;have a0:DataW.trod enc Tryz.prog w base spare held m 3 ((cs.drop 0).take (Tryz.prog.cellsOf 3))=xs[0]?:=hi 0 _ rfl;have a1:DataW.trod enc Tryz.prog w base spare held m 3 ((cs.drop 1).take (Tryz.prog.cellsOf 3))=xs[1]?:=hi 1 _ rfl;have a2:DataW.trod enc Tryz.prog w base spare held m 36 ((cs.drop 2).take (Tryz.prog.cellsOf 36))=xs[2]?:=hi 2 _ rfl;rw [Zg (by omega)] at a0 a1 a2;obtain ⟨n0,e0,_⟩:=DataW.trod_int Tryz.underlying3 a0;obtain ⟨n1,e1,_⟩:=DataW.trod_int Tryz.underlying3 a1;obtain ⟨A,n,c,e2⟩:=Qdx Tryz.underlying36 a2;rw [e2] at a2;obtain ⟨l,h1,h2,h3,_,_⟩:=Qmf Tryz.underlying36 Tryz.underlying2 (by kernel_rfl) a2;rw [show Tryz.prog.cellsOf 122=3 by kernel_rfl] at hcl
 rw [show Tryz.prog.cellsOf 3=1 by kernel_rfl] at e0 e1
 rw [show Tryz.prog.cellsOf 36=1 by kernel_rfl] at e2
 clear a0 a1 a2 hi h;obtain ⟨c0,c1,c2,rfl⟩:=Qgh hcl;simp at e0 e1 e2;exact ⟨⟨n0,n1,l⟩,A,n,c,by simp [e0,e1,e2],h1,h2,h3⟩
theorem Qry {cs:List Value}{fuel:Nat}{x:DataW H×List MemPlace}(h:DataW.trod enc Tryz.prog w base spare held fuel 26 cs=some x) :
 ∃ (A B C:Option Addr) (n m k c d e:Nat) (N:Qam),cs=[.slice A n c,.slice B m d,.slice C k e]∧Qce w A B C n m k N∧k≤9223372036854775807:=by
 obtain ⟨xs,f,_,_,hcl,hxl,hi⟩:=DataW.trod_struct Tryz.underlying26 h;have hxl':xs.length=3:=hxl;have a0:DataW.trod enc Tryz.prog w base spare held f 22 ((cs.drop 0).take (Tryz.prog.cellsOf 22))=xs[0]?:=hi 0 _ rfl;have a1:DataW.trod enc Tryz.prog w base spare held f 23 ((cs.drop 1).take (Tryz.prog.cellsOf 23))=xs[1]?:=hi 1 _ rfl;have a2:DataW.trod enc Tryz.prog w base spare held f 24 ((cs.drop 2).take (Tryz.prog.cellsOf 24))=xs[2]?:=hi 2 _ rfl;rw [Zg (by omega)] at a0 a1 a2;obtain ⟨A,n,c,e0⟩:=Qdx Tryz.underlying22 a0;obtain ⟨B,m,d,e1⟩:=Qdx Tryz.underlying23 a1;obtain ⟨C,k,e,e2⟩:=Qdx Tryz.underlying24 a2;rw [e0] at a0;rw [e1] at a1;rw [e2] at a2;obtain ⟨vs,hl0,_,_,_,hr0⟩:=Qez Tryz.underlying22 (k:=3) (by kernel_rfl) (by omega) (fun cs (p:Tri)=>cs=[.int .i64 p.1,.int .i64 p.2.1,.int .i64 p.2.2]) rel_vert a0;obtain ⟨ar,hl1,_,_,_,hr1⟩:=Qez Tryz.underlying23 (k:=3) (by kernel_rfl) (by omega) (fun cs (p:Tri)=>cs=[.int .i64 p.1,.int .i64 p.2.1,.int .i64 p.2.2]) rel_arc a1;obtain ⟨ts,hl2,hkc,hcm,_,hr2⟩:=Qez Tryz.underlying24 (k:=3) (by kernel_rfl) (by omega) (TabCs w) rel_tab a2;rw [show Tryz.prog.cellsOf 26=3 by kernel_rfl] at hcl
 rw [show Tryz.prog.cellsOf 22=1 by kernel_rfl] at e0
 rw [show Tryz.prog.cellsOf 23=1 by kernel_rfl] at e1
 rw [show Tryz.prog.cellsOf 24=1 by kernel_rfl] at e2
 clear a0 a1 a2 hi h;obtain ⟨c0,c1,c2,rfl⟩:=Qgh hcl;simp at e0 e1 e2;refine ⟨A,B,C,n,m,k,c,d,e,⟨vs,ar,ts⟩,by simp [e0,e1,e2],⟨⟨hl0,fun i p hp=>?_⟩,⟨hl1,fun i p hp=>?_⟩,⟨hl2,fun i p hp=>?_⟩⟩,by omega⟩
 · obtain ⟨b,o,us,e5,rfl,_,hv⟩:=hr0 i p hp
   exact ⟨b,o,e5,by have:=hv 0 _ rfl;simpa using this,hv 1 _ rfl,hv 2 _ rfl⟩
 · obtain ⟨b,o,us,e5,rfl,_,hv⟩:=hr1 i p hp
   exact ⟨b,o,e5,by have:=hv 0 _ rfl;simpa using this,hv 1 _ rfl,hv 2 _ rfl⟩
 · obtain ⟨b,o,us,e5,⟨A',n',c',rfl,h1,h2,h3⟩,_,hv⟩:=hr2 i p hp
   exact ⟨b,o,e5,by have:=hv 0 _ rfl;simpa using this,hv 1 _ rfl,A',n',c',hv 2 _ rfl,h1,h2,h3⟩
end
end Go.Proofs.YtdheeddnkdhfeaaGreatDoor
namespace Go.Proofs.YtdheeddnkdhfeaaGreatDoor
open Go.ChangeShapes Go.WideShapes Go.ChangeAt Go.RowKit Go.Deep
theorem et_ : Tryz.prog.globalNamed "errors.errorType" = some 0 := by kernel_rfl
theorem rt_ : (Tryz.prog.cutTypes.find? (·.1 == "internal/reflectlite.rtype")).map (·.2) = some 281 := by kernel_rfl
theorem oneRow_:((List.range 363).filter fun t=>Tryz.prog.rowNamed t [101,114,114,111,114])=[44]:=by kernel_rfl
theorem size_:Tryz.prog.types.size=363:=by kernel_rfl
theorem Qgv {W : World} (h : laidMetH Tryz.prog [("errors.errorType", Rows.laid_errors_errorType)] W) : W.cell? ⟨0, 0, none⟩ = some Qmv := by
 have h' : laidMet Tryz.prog [] W ∧ handlesMet Tryz.prog [("errors.errorType", Rows.laid_errors_errorType)] W := h
 obtain ⟨name,u,ty,e1,e2,e3,e4,e5⟩:=h'.2 _ (List.mem_singleton.2 rfl);have en:name=[101,114,114,111,114]:=(Yv e1).symm;subst en;obtain rfl:=Yv (rt_.symm.trans e2);have hm:ty∈(List.range 363).filter fun t=>Tryz.prog.rowNamed t [101,114,114,111,114]:=List.mem_filter.2 ⟨List.mem_range.2 (by rw [←size_];exact e3),e4⟩
 rw [oneRow_] at hm;obtain rfl:=List.mem_singleton.1 hm;have hh:typeHandle Tryz.prog 44=.pointer (some ⟨1,44,none⟩):=by kernel_rfl
 rw [hh] at e5;unfold Qmv
 simpa using World.var?_cell et_ e5 0
noncomputable def Qjn (os:Os):World :=
 let w0:=World.holding Tryz.prog os ⟨#[],#[],[]⟩
 { w0 with heap:=w0.heap.modify 0 fun
  | .cells _ t frozen=>.cells #[Qmv] t frozen
  | o=>o }
theorem Qhs (os : Os) (args : Array Value) : laidMetH Tryz.prog [("errors.errorType", Rows.laid_errors_errorType)] ((Qjn os).forCall (fun _ _ => 0) ⟨#[], args, []⟩).memory :=
 laidMetH_of_parts (laidMet_nil _ _) (by kernel_rfl)
end Go.Proofs.YtdheeddnkdhfeaaGreatDoor
