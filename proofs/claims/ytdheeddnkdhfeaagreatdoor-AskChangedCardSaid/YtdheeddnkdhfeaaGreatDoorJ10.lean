/- Parts of the proof: My, Do, Do2, OpA, FsA, Hv, InA, Dj. -/
import Derived.Test.YtdheeddnkdhfeaaGreatDoorJ9
namespace Go.Proofs.YtdheeddnkdhfeaaGreatDoor
open Go.RowKit Go.Proofs.Tryz
attribute [local go_sem ↓] Go.wp_at_zero Go.wp_at_succ
end Go.Proofs.YtdheeddnkdhfeaaGreatDoor
namespace Go.Proofs.YtdheeddnkdhfeaaGreatDoor
open Go.RowKit Go.Extern.Stop Go.Stop Go.Extern Go.Proofs.Tryz
attribute [local go_sem ↓] Go.wp_at_zero Go.wp_at_succ
def ErrV (w:World)(v:Value) (ps:List (ByteArray×Int)) (c0:Int):Prop:=(c0=0∧v=.nilIface)∨(c0≠0∧Qcd w v ps c0)
theorem Qmu {v:Value}{A:Option Addr}{n c:Nat} {ps:List (ByteArray×Int)} {c0:Int} {w:World} (h:ErrV w v ps c0) (hr:c0≠0→RdW w A n ps) (hg:w.cell? ⟨0,0,none⟩=some Qjb) (hn:n≤4000000000000000000) :
 Calls prog 23 #[v,.agg #[.slice A n c,.int .i64 c0]] w fun e w'=>e=.returned (.bool true)∧Below w.heap.size w w':=by
 rcases h with ⟨rfl,rfl⟩|⟨h0,hc⟩
 · exact Qyv A n c w
 · exact Qot v A n c ps c0 w hc (hr h0) h0 hg hn
def Qwy (w:World)(G0:Nat→Prop)(n m k:Nat)(N':Qak) (ps:List (ByteArray×Int)) (c0:Int) (r:Ending) (w':World):Prop :=
 ∃ (A' B' C':Option Addr) (c' d' e':Nat) (A4:Option Addr) (n4 m4:Nat),r=.returned (.tuple #[.agg #[.slice A' n c',.slice B' m d',.slice C' k e'],.agg #[.slice A4 n4 m4,.int .i64 c0]]) ∧
  Qbg (msk w' (fun b=>G0 b∨w.heap.size≤b)) A' B' C' n m k N'∧(c0≠0→RdW w' A4 n4 ps)∧n4≤1000001∧Below w.heap.size w w'
def GraP (w:World)(F:Nat→Prop)(g:Nat)(N':Qak) (ps:List (ByteArray×Int)) (c0:Int) (r:Ending) (w':World):Prop :=
 ∃ (v:Value) (F':Nat→Prop),r=.returned v∧ErrV w' v ps c0∧(∀ b,F' b→F b∨w.heap.size≤b)∧GrO w' F' g N'∧Qbb (fun b=>¬F b) w w'∧w.heap.size≤w'.heap.size∧(∀ B,B≤w.heap.size→(∀ b,F b→B≤b)→Below B w w')∧(c0≠0→Below w.heap.size w w')
theorem GraP.no {w w':World}{F:Nat→Prop}{g:Nat}{N:Qak}{v:Value} {ps:List (ByteArray×Int)} {c0:Int} (h:GrO w F g N) (hc0:c0≠0) (hc:Qcd w' v ps c0) (hb:Below w.heap.size w w'):GraP w F g N ps c0 (.returned v) w' :=
 ⟨v,F,rfl,.inr ⟨hc0,hc⟩,fun _ h=>.inl h,h.below hb,Qbb.below hb,hb.size,fun _ hB _=>hb.mono hB,fun _=>hb⟩
theorem Qwy.no {w w':World}{G0:Nat→Prop}{A B C:Option Addr}{n m k c d e:Nat}{N:Qak} {ps:List (ByteArray×Int)} {c0:Int} {A4:Option Addr} {n4 m4:Nat} (h:Qbg (msk w G0) A B C n m k N) (hr:RdW w' A4 n4 ps) (hn:n4≤1000001) (hb:Below w.heap.size w w') :
 Qwy w G0 n m k N ps c0 (.returned (.tuple #[.agg #[.slice A n c,.slice B m d,.slice C k e],.agg #[.slice A4 n4 m4,.int .i64 c0]])) w' :=
 ⟨A,B,C,c,d,e,A4,n4,m4,rfl,h.le (Qlq (fun _ h=>.inl h) (Le.below hb)),fun _=>hr,hn,hb⟩
theorem Qwy.ok {w w':World}{G0:Nat→Prop}{A' B' C':Option Addr}{n m k c' d' e':Nat}{N':Qak} (h:Qbg (msk w' (fun b=>w.heap.size≤b)) A' B' C' n m k N') (hb:Below w.heap.size w w') :
 Qwy w G0 n m k N' [] 0 (.returned (.tuple #[.agg #[.slice A' n c',.slice B' m d',.slice C' k e'],.agg #[.slice none 0 0,.int .i64 0]])) w' :=
 ⟨A',B',C',c',d',e',none,0,0,rfl,h.le (Qbe (fun _ h=>.inr h)),fun h=>absurd rfl h,by omega,hb⟩
theorem Qez.b {N:Qak}(h:Qez N){w:World}{A B C:Option Addr}{n m k:Nat}(hr:Qbg w A B C n m k N):n≤80∧m≤300∧k≤80:=⟨by rw [←hr.1.1];exact h.v,by rw [←hr.2.1.1];exact h.a,by rw [←hr.2.2.1];exact h.t⟩
theorem set_pair (N:Qak)(hF:Qez N)(hN:Qas N)(a u:Int):∃ (N':Qak) (ps:List (ByteArray×Int)) (c0:Int),Qez N'∧Qas N'∧(Qdf N'.ar N.ar∧N'.vs=N.vs) ∧
 (∀ (A B C:Option Addr) (n m k c d e:Nat) (w:World) (G0:Nat→Prop),Qbg (msk w G0) A B C n m k N→Calls prog 41 #[.agg #[.slice A n c,.slice B m d,.slice C k e],.int .i64 a,.int .i64 u] w (Qwy w G0 n m k N' ps c0)) ∧
 ∀ (g:Nat) (F:Nat→Prop) (w:World),GrO w F g N→Calls prog 42 #[.pointer (some ⟨g,0,none⟩),.int .i64 a,.int .i64 u] w (GraP w F g N' ps c0):=by
 by_cases h:0≤a∧a<N.ar.length
 · obtain ⟨q,rfl⟩:∃ q:Nat,a=q:=⟨a.toNat,by omega⟩
   obtain ⟨⟨x,y,z⟩,ha⟩:∃ p,N.ar[q]?=some p:=⟨_,Zg (by omega)⟩
   cases hu:wOk u
   · refine ⟨N,[((⟨#[103,114,97,112,104]⟩:ByteArray),(q:Int))],8,hF,hN,⟨⟨rfl,rfl⟩,rfl⟩,fun A B C n m k c d e w G0 hr=>?_,fun g F w hg=>?_⟩
     · refine (Qwa A B C n m k c d e q u w h.1 (by rw [←hr.2.1.1];exact h.2) hu).mono ?_
       rintro r w' ⟨A4,n4,m4,rfl,h1,h2,h3⟩;exact Qwy.no hr h1 (by omega) h3
     · refine (gSet_no2 g q u N w hg.rd h.1 h.2 hu).mono ?_
       rintro r w' ⟨v,rfl,h1,h2⟩;exact GraP.no hg (by decide) h1 h2
   · refine ⟨N.setW q x y u,[],0,hF.setW _ _ _ _,hN.setW ha hu,⟨Qki ha u,rfl⟩,fun A B C n m k c d e w G0 hr=>?_,fun g F w hg=>?_⟩
     · have hr':=hr.le (Qbd w G0)
       have hb:=hF.b hr';refine (Qxy A B C n m k c d e q x y z u N w hr' (by omega) (by omega) (by omega) (fun t ht=>by have:=hF.c t ht;omega) ha hu).mono ?_;rintro r w' ⟨A',B',C',c',d',e',rfl,h1,h2⟩;exact Qwy.ok h1 h2
     · refine (gSet_ok g q x y z u N F w hg ha hu).mono ?_
       rintro r w' ⟨rfl,h1,h2,h3,h4⟩;exact ⟨_,F,rfl,.inl ⟨rfl,rfl⟩,fun _ h=>.inl h,h1,h2,h3,fun B _ hB=>h4 B hB,fun h=>absurd rfl h⟩
 · refine ⟨N,[((⟨#[103,114,97,112,104]⟩:ByteArray),a)],5,hF,hN,⟨⟨rfl,rfl⟩,rfl⟩,fun A B C n m k c d e w G0 hr=>?_,fun g F w hg=>?_⟩
   · refine (Qvt A B C n m k c d e a u w (by rw [←hr.2.1.1];exact h)).mono ?_
     rintro r w' ⟨A4,n4,m4,rfl,h1,h2,h3⟩;exact Qwy.no hr h1 (by omega) h3
   · refine (gSet_no1 g a u N w hg.rd h).mono ?_
     rintro r w' ⟨v,rfl,h1,h2⟩;exact GraP.no hg (by decide) h1 h2
theorem bendNo_c {N:Qak}{p i o u:Int} {ps:List (ByteArray×Int)} {c0:Int} (h:Qhu N p i o u=some (ps,c0)):c0≠0:=by
 unfold Qhu at h
 split at h
 · cases h;decide
 · split at h
   · cases h
   · rename_i t ht
     cases hw:Qff t.ins t.outs i o u with
     | none=>rw [hw] at h;cases h
     | some q =>
      rw [hw] at h
      cases h
      rcases Qsy (x:=q.1) (y:=q.2) hw with h|h <;> rw [h] <;> decide
theorem Qri {N:Qak}(hN:Qas N){p i o u:Int}(h:Qhu N p i o u=none) :
 ∃ (p' i' o' ti to_:Nat) (cs:List Int),p=p'∧i=i'∧o=o'∧N.ts[p']?=some ⟨ti,to_,cs⟩∧i'<ti∧o'<to_∧wOk u=true:=by
 unfold Qhu at h
 split at h
 · cases h
 · rename_i hp
   obtain ⟨q,rfl⟩:∃ q:Nat,p=q:=⟨p.toNat,by omega⟩;obtain ⟨t,ht⟩:∃ t,N.ts[q]?=some t:=⟨_,Zg (by omega)⟩;simp only [Yl,ht] at h;have hT:=hN.tabs t (Zm ht);obtain ⟨ti,to_,cs⟩:=t;have i0:=hT.i0;have o0:=hT.o0;simp only at i0 o0 h;obtain ⟨ti,rfl⟩:∃ x:Nat,ti=x:=⟨ti.toNat,by omega⟩;obtain ⟨to_,rfl⟩:∃ x:Nat,to_=x:=⟨to_.toNat,by omega⟩
   have hw:Qff ti to_ i o u=none:=by
    cases hw:Qff ti to_ i o u with
    | none=>rfl
    | some q=>rw [hw] at h;cases h
   unfold Qff at hw
   split at hw
   · cases hw
   · split at hw
     · cases hw
     · split at hw
       · cases hw
       · rename_i h1 h2 h3
         exact ⟨q,i.toNat,o.toNat,ti,to_,cs,rfl,by omega,by omega,ht,by omega,by omega,by simpa using h3⟩
theorem Qya (N:Qak)(hF:Qez N)(hN:Qas N)(p i o u:Int):∃ (N':Qak) (ps:List (ByteArray×Int)) (c0:Int),Qez N'∧Qas N'∧(Qdf N'.ar N.ar∧N'.vs=N.vs) ∧
 (∀ (A B C:Option Addr) (n m k c d e:Nat) (w:World) (G0:Nat→Prop),Qbg (msk w G0) A B C n m k N→Calls prog 43 #[.agg #[.slice A n c,.slice B m d,.slice C k e],.int .i64 p,.int .i64 i,.int .i64 o,.int .i64 u] w (Qwy w G0 n m k N' ps c0)) ∧
 ∀ (g:Nat) (F:Nat→Prop) (w:World),GrO w F g N→Calls prog 44 #[.pointer (some ⟨g,0,none⟩),.int .i64 p,.int .i64 i,.int .i64 o,.int .i64 u] w (GraP w F g N' ps c0):=by
 cases h:Qhu N p i o u with
 | some q =>
  obtain ⟨ps,c0⟩:=q;refine ⟨N,ps,c0,hF,hN,⟨⟨rfl,rfl⟩,rfl⟩,fun A B C n m k c d e w G0 hr=>?_,fun g F w hg=>?_⟩
  · refine (Qvo A B C n m k c d e p i o u N ps c0 w (hr.le (Qbd w G0)) h).mono ?_
    rintro r w' ⟨A4,n4,m4,rfl,h1,h2,h3⟩;exact Qwy.no hr h1 h2 h3
  · refine (gBend_no g p i o u N ps c0 w hg.rd h).mono ?_
    rintro r w' ⟨v,rfl,h1,h2⟩;exact GraP.no hg (bendNo_c h) h1 h2
 | none =>
  obtain ⟨p,i,o,ti,to_,cs,rfl,rfl,rfl,ht,hi,ho,hu⟩:=Qri hN h;refine ⟨_,[],0,hF.bend ht (i*to_+o) u,hN.bend ht hu,⟨⟨rfl,rfl⟩,rfl⟩,fun A B C n m k c d e w G0 hr=>?_,fun g F w hg=>?_⟩
  · have hr':=hr.le (Qbd w G0)
    have hb:=hF.b hr';refine (Qws A B C n m k c d e p i o ti to_ cs u N w hr' (by omega) (by omega) (by omega) (fun t ht=>by have:=hF.c t ht;omega) ht (hN.tabs _ (Zm ht)) hi ho hu).mono ?_;rintro r w' ⟨A',B',C',c',d',e',rfl,h1,h2⟩;exact Qwy.ok h1 h2
  · refine (gBend_ok g p i o ti to_ cs u N F w hg ht hi ho hu).mono ?_
    rintro r w' ⟨rfl,⟨F',h0,h1⟩,h2,h3,h4⟩;exact ⟨_,F',rfl,.inl ⟨rfl,rfl⟩,h0,h1,h2,h3,h4,fun h=>absurd rfl h⟩
end Go.Proofs.YtdheeddnkdhfeaaGreatDoor
namespace Go.Proofs.YtdheeddnkdhfeaaGreatDoor
open Go.RowKit Go.Extern.Stop Go.Stop Go.Extern Go.Proofs.Tryz
attribute [local go_sem ↓] Go.wp_at_zero Go.wp_at_succ
def DoN (w:World)(F G0:Nat→Prop)(g n m k:Nat)(N':Qak)(r:Ending)(w':World):Prop :=
 ∃ (A' B' C':Option Addr) (c' d' e':Nat) (F':Nat→Prop),r=.returned (.tuple #[.agg #[.slice A' n c',.slice B' m d',.slice C' k e'],.bool true])∧GrO w' F' g N'∧Qbg (msk w' (fun b=>¬F' b∧(G0 b∨w.heap.size≤b))) A' B' C' n m k N'∧Qez N' ∧
  (∀ b,F' b→F b∨w.heap.size≤b)∧Qbb (fun b=>¬F b) w w'∧w.heap.size≤w'.heap.size∧∀ B,B≤w.heap.size→(∀ b,F b→B≤b)→Below B w w'
def DoA (w:World)(F G0:Nat→Prop)(g n m k:Nat)(N:Qak)(r:Ending)(w':World):Prop:=∃ N',(Qdf N'.ar N.ar∧N'.vs=N.vs)∧DoN w F G0 g n m k N' r w'
def SetT (N N':Qak) (ps:List (ByteArray×Int)) (c0 a u:Int):Prop :=
 (∀ (A B C:Option Addr) (n m k c d e:Nat) (w:World) (G0:Nat→Prop),Qbg (msk w G0) A B C n m k N→Calls prog 41 #[.agg #[.slice A n c,.slice B m d,.slice C k e],.int .i64 a,.int .i64 u] w (Qwy w G0 n m k N' ps c0)) ∧
  ∀ (g:Nat) (F:Nat→Prop) (w:World),GrO w F g N→Calls prog 42 #[.pointer (some ⟨g,0,none⟩),.int .i64 a,.int .i64 u] w (GraP w F g N' ps c0)
set_option maxHeartbeats 2000000 in
theorem do_setN (g:Nat)(A B C:Option Addr)(n m k c d e:Nat)(a i o u:Int)(N N':Qak) (ps:List (ByteArray×Int)) (c0:Int) (F G0:Nat→Prop) (w:World) (h:GrO w F g N) (hr:Qbg (msk w (fun b=>¬F b∧G0 b)) A B C n m k N) (hg:w.cell? ⟨0,0,none⟩=some Qjb) (hF0:∀ b,F b→1≤b) (hF':Qez N') (hS:SetT N N' ps c0 a u) :
 Calls prog 12 #[.pointer (some ⟨g,0,none⟩),.agg #[.slice A n c,.slice B m d,.slice C k e],.agg #[.int .i64 0,.int .i64 a,.int .i64 i,.int .i64 o,.int .i64 u]] w (DoN w F G0 g n m k N'):=by
 obtain ⟨hRR,hGG⟩:=hS;have hFL:∀ b,F b→b<w.heap.size:=fun b hb=>h.lt hb
 have HF:=Zh hFL
 have HNR:=Zh (show ∀ V,Below w.heap.size w V→Qbg (msk V (fun b=>(¬F b∧G0 b)∧b<w.heap.size)) A B C n m k N from fun V hV=>hr.le (fun a v hc=>by
  obtain ⟨h1,h2⟩:=Qal.1 hc;exact Qal.2 ⟨⟨h1,Qah h2⟩,Zc hV (Zn _) h2⟩))
 have HGR:=Zh (show ∀ V,Below w.heap.size w V→GrO V F g N from fun V hV=>h.below hV)
 have hg0:=Qah hg;simp only at hg0;have HG:=Zh hg;have HF0:=Zh hF0;have HRR:=Zh hRR;have HGG:=Zh hGG;have HF':=Zh hF';clear h hr hg hF0 hFL hRR hGG hF'
 go_enter func12,ntmps12
 go_wp2_with fail
 (refine Qab ?_;intro w1 hw1)
 have hb1:Below w.heap.size w w1:=by rw [hw1];exact Qag
 have hT5:Blk w1 (w.heap.size+1) 42 #[.int .i64 0,.int .i64 a,.int .i64 i,.int .i64 o,.int .i64 u]:=by rw [hw1];exact Qay
 have hT6:Blk w1 (w.heap.size+1+1) 26 #[.slice none 0 0,.slice none 0 0,.slice none 0 0]:=by rw [hw1];exact Qay
 have hz1:w1.heap.size=w.heap.size+3:=by rw [hw1];simp
 clear hw1;with_reducible refine (HRR.out A B C n m k c d e w1 _ (HNR.out w1 hb1)).mono ?_
 rintro r w2 ⟨A',B',C',c',d',e',A4,n4,m4,rfl,hnet,hwr,hn4,hb2⟩;have hb2':=Zb hb1 hb2;have hT52:=hT5.below hb2 hT5.lt;have hT62:=hT6.below hb2 hT6.lt;have hz2:=hb2.size;have HNET:=Zh hnet;have HWR:=Zh hwr;clear hb1 hb2 hT5 hT6 hnet hwr HNR
 go_wp2_with fail
 (refine Qai ?_;intro w3 hw3)
 have hb3:Below w2.heap.size w2 w3:=by rw [hw3];exact Qag
 have hT8:Blk w3 w2.heap.size 26 #[.slice A' n c',.slice B' m d',.slice C' k e']:=by rw [hw3];exact Qay
 have hT9:Blk w3 (w2.heap.size+1) 66 #[.slice A4 n4 m4,.int .i64 c0]:=by rw [hw3];exact Qay
 have hb3':=Zb hb2' hb3;have hT53:=hT52.below hb3 hT52.lt;have hT63:=hT62.below hb3 hT62.lt;have hz3:=hb3.size;have HB3:=Zh hb3;clear hw3 hb3 hT52 hT62 hb2';obtain ⟨g8,hg8⟩:∃ x,x=w2.heap.size:=⟨_,rfl⟩;rw [←hg8] at hT8 hT9 ⊢;have hl8:=hT8.lt;have hl9:=hT9.lt
 have HSX:=Zh (show ∀ X:World,(Blk X (w.heap.size+1) 42 #[.int .i64 0,.int .i64 a,.int .i64 i,.int .i64 o,.int .i64 u]∧Blk X g8 26 #[.slice A' n c',.slice B' m d',.slice C' k e']∧Blk X (g8+1) 66 #[.slice A4 n4 m4,.int .i64 c0]) →
  X.cell? ⟨w.heap.size+1,1,none⟩=some (.int .i64 a)∧X.cell? ⟨w.heap.size+1,2,none⟩=some (.int .i64 i)∧X.cell? ⟨w.heap.size+1,3,none⟩=some (.int .i64 o)∧X.cell? ⟨w.heap.size+1,4,none⟩=some (.int .i64 u) ∧
  X.cell? ⟨g8,0,none⟩=some (.slice A' n c')∧X.cell? ⟨g8,1,none⟩=some (.slice B' m d')∧X.cell? ⟨g8,2,none⟩=some (.slice C' k e')∧X.cell? ⟨g8+1,0,none⟩=some (.slice A4 n4 m4)∧X.cell? ⟨g8+1,1,none⟩=some (.int .i64 c0) from fun X ⟨h1,h2,h3⟩=>by
  refine ⟨?_,?_,?_,?_,h2.three.1,h2.three.2.1,h2.three.2.2,h3.two.1,h3.two.2.1⟩
  all_goals (rw [h1.cell];rfl))
 have hg8z:w.heap.size+3≤g8:=by omega
 have HG8:=Zh hg8;clear hg8;refine wp_region_held_drew (S:=fun X=>Blk X (w.heap.size+1) 42 #[.int .i64 0,.int .i64 a,.int .i64 i,.int .i64 o,.int .i64 u]∧Blk X g8 26 #[.slice A' n c',.slice B' m d',.slice C' k e']∧Blk X (g8+1) 66 #[.slice A4 n4 m4,.int .i64 c0]) (by kernel_rfl) ⟨hT53.drew,hT8.drew,hT9.drew⟩ (fun _=>?_);refine tz 0 24 ?_;refine tz 1 25 ?_;refine tz 2 26 ?_;refine tz 3 27 ?_;refine tz 4 28 ?_;refine tz 5 29 ?_;refine tz 7 31 ?_;refine Zk 6 (fun K hK=>?_);go_simp;have hbd:Below w3.heap.size w3 w3.drew:=(Zr _ _).drew;with_reducible refine (HGG.out g F _ (HGR.out _ (hb3'.drew))).mono ?_
 rintro r w4 ⟨v,F',rfl,herr,hFF,hgr,hkp,hz4,hbl,hno⟩;have hk4:Qbb (fun b=>¬F b) w3 w4:=hkp;have hz4:w3.heap.size≤w4.heap.size:=hz4;have hbl4:∀ B,B≤w3.heap.size→(∀ b,F b→B≤b)→Below B w3 w4:=fun B h1 h2=>(Zr B w3).drew.trans (hbl B h1 h2)
 have hno4:c0≠0→Below w3.heap.size w3 w4:=fun h=>hbd.trans (hno h)
 have hFF:∀ b,F' b→F b∨w3.heap.size≤b:=hFF;have nF:∀ b,w.heap.size≤b→¬F b:=fun b hb hf=>by have:=HF.out b hf;omega
 have hT54:Blk w4 (w.heap.size+1) 42 #[.int .i64 0,.int .i64 a,.int .i64 i,.int .i64 o,.int .i64 u]:=(hk4 _ (nF _ (by omega)) hT53.lt).trans hT53;have hT64:Blk w4 (w.heap.size+1+1) 26 #[.slice none 0 0,.slice none 0 0,.slice none 0 0]:=(hk4 _ (nF _ (by omega)) hT63.lt).trans hT63;have hT84:=(show Blk w4 g8 26 #[.slice A' n c',.slice B' m d',.slice C' k e'] from (hk4 _ (nF _ (by omega)) hT8.lt).trans hT8)
 have hT94:=(show Blk w4 (g8+1) 66 #[.slice A4 n4 m4,.int .i64 c0] from (hk4 _ (nF _ (by omega)) hT9.lt).trans hT9)
 have hg3:w3.cell? ⟨0,0,none⟩=some Qjb:=Zc hb3' (Zn _) HG.out;have hg4:w4.cell? ⟨0,0,none⟩=some Qjb:=((hbl4 1 (by omega) (fun b hb=>HF0.out b hb)).cell (by simp)).trans hg3;have HTL:=Zh (Qmu (A:=A4) (n:=n4) (c:=m4) herr (fun h=>((HWR.out h).below HB3.out).below (hno4 h)) hg4 (by omega));have HK4:=Zh hk4;have HBL4:=Zh hbl4;have HGRN:=Zh hgr;have HFF:=Zh hFF;clear hkp hbl hno hk4 hbl4 hno4 hFF hgr herr hg3 hg4 hT53 hT63 hT8 hT9 hbd HGR HGG HRR
 go_wp2_with fail
 refine hK.out _ _ ⟨hT54,hT84,hT94⟩ (fun _=>?_);clear hK K;refine Zk 8 (fun K hK=>?_);go_simp;with_reducible refine HTL.out.mono ?_
 rintro r w5 ⟨rfl,hb5⟩;have hT55:=hT54.below hb5 hT54.lt;have hT65:=hT64.below hb5 hT64.lt;have hT85:=hT84.below hb5 hT84.lt;have hT95:=hT94.below hb5 hT94.lt;have hz5:=hb5.size;have HB5:=Zh hb5;clear hb5 hT54 hT64 hT84 hT94 HTL HWR
 go_wp2_with fail
 refine hK.out _ _ ⟨hT55,hT85,hT95⟩ (fun _=>?_);clear hK K;obtain ⟨q0,q1,q2⟩:=hT65.three;have fq0:=hT65.frozen 0;have fq1:=hT65.frozen 1;have fq2:=hT65.frozen 2;refine Zk 9 (fun K hK=>?_);go_simp;refine hK.out _ _ ⟨((hT55.far (by simp only;omega) _).far (by simp only;omega) _).far (by simp only;omega) _,((hT85.far (by simp only;omega) _).far (by simp only;omega) _).far (by simp only;omega) _,((hT95.far (by simp only;omega) _).far (by simp only;omega) _).far (by simp only;omega) _⟩ (fun _=>?_);clear hK K q0 q1 q2 fq0 fq1 fq2;refine tz 10 7 ?_;refine Zd ?_
 go_wp2_with fail
 refine Qbu ?_;intro W hW;have hRW:Blk W (w.heap.size+1+1) 26 #[.slice A' n c',.slice B' m d',.slice C' k e']:=by rw [hW];exact ((hT65.set_ 0 _).set_ 1 _).set_ 2 _
 exact Kal
theorem do_set (g:Nat)(A B C:Option Addr)(n m k c d e:Nat)(a i o u:Int)(N:Qak)(F G0:Nat→Prop)(w:World)(h:GrO w F g N) (hr:Qbg (msk w (fun b=>¬F b∧G0 b)) A B C n m k N) (hF:Qez N) (hg:w.cell? ⟨0,0,none⟩=some Qjb) (hF0:∀ b,F b→1≤b) :
 Calls prog 12 #[.pointer (some ⟨g,0,none⟩),.agg #[.slice A n c,.slice B m d,.slice C k e],.agg #[.int .i64 0,.int .i64 a,.int .i64 i,.int .i64 o,.int .i64 u]] w (DoA w F G0 g n m k N):=by
 obtain ⟨N',ps,c0,hF',hN',hA',hS⟩:=set_pair N hF h.ok a u;exact (do_setN g A B C n m k c d e a i o u N N' ps c0 F G0 w h hr hg hF0 hF' hS).mono (fun _ _ h=>⟨N',hA',h⟩)
set_option maxHeartbeats 2000000 in
theorem do_bend (g:Nat)(A B C:Option Addr)(n m k c d e:Nat)(kd a i o u:Int)(hkd:kd≠0)(N:Qak)(F G0:Nat→Prop)(w:World)(h:GrO w F g N) (hr:Qbg (msk w (fun b=>¬F b∧G0 b)) A B C n m k N) (hF:Qez N) (hg:w.cell? ⟨0,0,none⟩=some Qjb) (hF0:∀ b,F b→1≤b) :
 Calls prog 12 #[.pointer (some ⟨g,0,none⟩),.agg #[.slice A n c,.slice B m d,.slice C k e],.agg #[.int .i64 kd,.int .i64 a,.int .i64 i,.int .i64 o,.int .i64 u]] w (DoA w F G0 g n m k N):=by
 obtain ⟨N',ps,c0,hF',hN',hA',hRR,hGG⟩:=Qya N hF h.ok a i o u;refine Calls.mono (R:=DoN w F G0 g n m k N') ?_ (fun _ _ h=>⟨N',hA',h⟩);clear hA';have k0:(kd == 0)=false:=by simpa using hkd
 clear hkd;have hFL:∀ b,F b→b<w.heap.size:=fun b hb=>h.lt hb
 have HF:=Zh hFL
 have HNR:=Zh (show ∀ V,Below w.heap.size w V→Qbg (msk V (fun b=>(¬F b∧G0 b)∧b<w.heap.size)) A B C n m k N from fun V hV=>hr.le (fun a v hc=>by
  obtain ⟨h1,h2⟩:=Qal.1 hc;exact Qal.2 ⟨⟨h1,Qah h2⟩,Zc hV (Zn _) h2⟩))
 have HGR:=Zh (show ∀ V,Below w.heap.size w V→GrO V F g N from fun V hV=>h.below hV)
 have hg0:=Qah hg;simp only at hg0;have HG:=Zh hg;have HF0:=Zh hF0;have HRR:=Zh hRR;have HGG:=Zh hGG;have HF':=Zh hF';clear h hr hg hF0 hFL hRR hGG hF'
 go_enter func12,ntmps12
 go_wp2_with fail
 (refine Qab ?_;intro w1 hw1)
 have hb1:Below w.heap.size w w1:=by rw [hw1];exact Qag
 have hT5:Blk w1 (w.heap.size+1) 42 #[.int .i64 kd,.int .i64 a,.int .i64 i,.int .i64 o,.int .i64 u]:=by rw [hw1];exact Qay
 have hT6:Blk w1 (w.heap.size+1+1) 26 #[.slice none 0 0,.slice none 0 0,.slice none 0 0]:=by rw [hw1];exact Qay
 have hz1:w1.heap.size=w.heap.size+3:=by rw [hw1];simp
 clear hw1;with_reducible refine (HRR.out A B C n m k c d e w1 _ (HNR.out w1 hb1)).mono ?_
 rintro r w2 ⟨A',B',C',c',d',e',A4,n4,m4,rfl,hnet,hwr,hn4,hb2⟩;have hb2':=Zb hb1 hb2;have hT52:=hT5.below hb2 hT5.lt;have hT62:=hT6.below hb2 hT6.lt;have hz2:=hb2.size;have HNET:=Zh hnet;have HWR:=Zh hwr;clear hb1 hb2 hT5 hT6 hnet hwr HNR
 go_wp2_with fail
 (refine Qai ?_;intro w3 hw3)
 have hb3:Below w2.heap.size w2 w3:=by rw [hw3];exact Qag
 have hT8:Blk w3 w2.heap.size 26 #[.slice A' n c',.slice B' m d',.slice C' k e']:=by rw [hw3];exact Qay
 have hT9:Blk w3 (w2.heap.size+1) 66 #[.slice A4 n4 m4,.int .i64 c0]:=by rw [hw3];exact Qay
 have hb3':=Zb hb2' hb3;have hT53:=hT52.below hb3 hT52.lt;have hT63:=hT62.below hb3 hT62.lt;have hz3:=hb3.size;have HB3:=Zh hb3;clear hw3 hb3 hT52 hT62 hb2';obtain ⟨g8,hg8⟩:∃ x,x=w2.heap.size:=⟨_,rfl⟩;rw [←hg8] at hT8 hT9 ⊢;have hl8:=hT8.lt;have hl9:=hT9.lt
 have HSX:=Zh (show ∀ X:World,(Blk X (w.heap.size+1) 42 #[.int .i64 kd,.int .i64 a,.int .i64 i,.int .i64 o,.int .i64 u]∧Blk X g8 26 #[.slice A' n c',.slice B' m d',.slice C' k e']∧Blk X (g8+1) 66 #[.slice A4 n4 m4,.int .i64 c0]) →
  X.cell? ⟨w.heap.size+1,1,none⟩=some (.int .i64 a)∧X.cell? ⟨w.heap.size+1,2,none⟩=some (.int .i64 i)∧X.cell? ⟨w.heap.size+1,3,none⟩=some (.int .i64 o)∧X.cell? ⟨w.heap.size+1,4,none⟩=some (.int .i64 u) ∧
  X.cell? ⟨g8,0,none⟩=some (.slice A' n c')∧X.cell? ⟨g8,1,none⟩=some (.slice B' m d')∧X.cell? ⟨g8,2,none⟩=some (.slice C' k e')∧X.cell? ⟨g8+1,0,none⟩=some (.slice A4 n4 m4)∧X.cell? ⟨g8+1,1,none⟩=some (.int .i64 c0) from fun X ⟨h1,h2,h3⟩=>by
  refine ⟨?_,?_,?_,?_,h2.three.1,h2.three.2.1,h2.three.2.2,h3.two.1,h3.two.2.1⟩
  all_goals (rw [h1.cell];rfl))
 have hg8z:w.heap.size+3≤g8:=by omega
 have HG8:=Zh hg8;clear hg8;refine wp_region_held_drew (S:=fun X=>Blk X (w.heap.size+1) 42 #[.int .i64 kd,.int .i64 a,.int .i64 i,.int .i64 o,.int .i64 u]∧Blk X g8 26 #[.slice A' n c',.slice B' m d',.slice C' k e']∧Blk X (g8+1) 66 #[.slice A4 n4 m4,.int .i64 c0]) (by kernel_rfl) ⟨hT53.drew,hT8.drew,hT9.drew⟩ (fun _=>?_);refine tz 0 46 ?_;refine tz 1 47 ?_;refine tz 2 48 ?_;refine tz 3 49 ?_;refine tz 4 50 ?_;refine tz 5 51 ?_;refine tz 6 52 ?_;refine tz 7 53 ?_;refine tz 8 54 ?_;refine tz 9 55 ?_;refine tz 11 57 ?_;refine Zk 10 (fun K hK=>?_);go_simp;have hbd:Below w3.heap.size w3 w3.drew:=(Zr _ _).drew;with_reducible refine (HGG.out g F _ (HGR.out _ (hb3'.drew))).mono ?_
 rintro r w4 ⟨v,F',rfl,herr,hFF,hgr,hkp,hz4,hbl,hno⟩;have hk4:Qbb (fun b=>¬F b) w3 w4:=hkp;have hz4:w3.heap.size≤w4.heap.size:=hz4;have hbl4:∀ B,B≤w3.heap.size→(∀ b,F b→B≤b)→Below B w3 w4:=fun B h1 h2=>(Zr B w3).drew.trans (hbl B h1 h2)
 have hno4:c0≠0→Below w3.heap.size w3 w4:=fun h=>hbd.trans (hno h)
 have hFF:∀ b,F' b→F b∨w3.heap.size≤b:=hFF;have nF:∀ b,w.heap.size≤b→¬F b:=fun b hb hf=>by have:=HF.out b hf;omega
 have hT54:Blk w4 (w.heap.size+1) 42 #[.int .i64 kd,.int .i64 a,.int .i64 i,.int .i64 o,.int .i64 u]:=(hk4 _ (nF _ (by omega)) hT53.lt).trans hT53;have hT64:Blk w4 (w.heap.size+1+1) 26 #[.slice none 0 0,.slice none 0 0,.slice none 0 0]:=(hk4 _ (nF _ (by omega)) hT63.lt).trans hT63;have hT84:=(show Blk w4 g8 26 #[.slice A' n c',.slice B' m d',.slice C' k e'] from (hk4 _ (nF _ (by omega)) hT8.lt).trans hT8)
 have hT94:=(show Blk w4 (g8+1) 66 #[.slice A4 n4 m4,.int .i64 c0] from (hk4 _ (nF _ (by omega)) hT9.lt).trans hT9)
 have hg3:w3.cell? ⟨0,0,none⟩=some Qjb:=Zc hb3' (Zn _) HG.out;have hg4:w4.cell? ⟨0,0,none⟩=some Qjb:=((hbl4 1 (by omega) (fun b hb=>HF0.out b hb)).cell (by simp)).trans hg3;have HTL:=Zh (Qmu (A:=A4) (n:=n4) (c:=m4) herr (fun h=>((HWR.out h).below HB3.out).below (hno4 h)) hg4 (by omega));have HK4:=Zh hk4;have HBL4:=Zh hbl4;have HGRN:=Zh hgr;have HFF:=Zh hFF;clear hkp hbl hno hk4 hbl4 hno4 hFF hgr herr hg3 hg4 hT53 hT63 hT8 hT9 hbd HGR HGG HRR
 go_wp2_with fail
 refine hK.out _ _ ⟨hT54,hT84,hT94⟩ (fun _=>?_);clear hK K;refine Zk 12 (fun K hK=>?_);go_simp;with_reducible refine HTL.out.mono ?_
 rintro r w5 ⟨rfl,hb5⟩;have hT55:=hT54.below hb5 hT54.lt;have hT65:=hT64.below hb5 hT64.lt;have hT85:=hT84.below hb5 hT84.lt;have hT95:=hT94.below hb5 hT94.lt;have hz5:=hb5.size;have HB5:=Zh hb5;clear hb5 hT54 hT64 hT84 hT94 HTL HWR
 go_wp2_with fail
 refine hK.out _ _ ⟨hT55,hT85,hT95⟩ (fun _=>?_);clear hK K;obtain ⟨q0,q1,q2⟩:=hT65.three;have fq0:=hT65.frozen 0;have fq1:=hT65.frozen 1;have fq2:=hT65.frozen 2;refine Zk 13 (fun K hK=>?_);go_simp;refine hK.out _ _ ⟨((hT55.far (by simp only;omega) _).far (by simp only;omega) _).far (by simp only;omega) _,((hT85.far (by simp only;omega) _).far (by simp only;omega) _).far (by simp only;omega) _,((hT95.far (by simp only;omega) _).far (by simp only;omega) _).far (by simp only;omega) _⟩ (fun _=>?_);clear hK K q0 q1 q2 fq0 fq1 fq2;refine tz 14 7 ?_;refine Zd ?_
 go_wp2_with fail
 refine Qbu ?_;intro W hW;have hRW:Blk W (w.heap.size+1+1) 26 #[.slice A' n c',.slice B' m d',.slice C' k e']:=by rw [hW];exact ((hT65.set_ 0 _).set_ 1 _).set_ 2 _
 exact Kal
theorem do_anyA (g:Nat)(A B C:Option Addr)(n m k c d e:Nat)(kd a i o u:Int)(N:Qak)(F G0:Nat→Prop)(w:World)(h:GrO w F g N) (hr:Qbg (msk w (fun b=>¬F b∧G0 b)) A B C n m k N) (hF:Qez N) (hg:w.cell? ⟨0,0,none⟩=some Qjb) (hF0:∀ b,F b→1≤b) :
 Calls prog 12 #[.pointer (some ⟨g,0,none⟩),.agg #[.slice A n c,.slice B m d,.slice C k e],.agg #[.int .i64 kd,.int .i64 a,.int .i64 i,.int .i64 o,.int .i64 u]] w (DoA w F G0 g n m k N):=by
 by_cases hk:kd=0
 · subst hk
   exact do_set g A B C n m k c d e a i o u N F G0 w h hr hF hg hF0
 · exact do_bend g A B C n m k c d e kd a i o u hk N F G0 w h hr hF hg hF0
end Go.Proofs.YtdheeddnkdhfeaaGreatDoor
namespace Go.Proofs.YtdheeddnkdhfeaaGreatDoor
open Go.RowKit Go.Proofs.Tryz
abbrev Quin:=Int×Int×Int×Int×Int
def RdA (w:World)(A:Option Addr)(n:Nat)(l:List Quin):Prop :=
 l.length=n∧∀ i x,l[i]?=some x→∃ b o,A=some ⟨b,o,none⟩∧w.cell? ⟨b,o+i*5,none⟩=some (.int .i64 x.1)∧w.cell? ⟨b,o+i*5+1,none⟩=some (.int .i64 x.2.1)∧w.cell? ⟨b,o+i*5+2,none⟩=some (.int .i64 x.2.2.1)∧w.cell? ⟨b,o+i*5+3,none⟩=some (.int .i64 x.2.2.2.1)∧w.cell? ⟨b,o+i*5+4,none⟩=some (.int .i64 x.2.2.2.2)
theorem RdA.at_ {w:World}{A:Option Addr}{n i:Nat}{l:List Quin}(h:RdA w A n l)(hi:i<n) :
 ∃ b o x y z u v,A=some ⟨b,o,none⟩∧w.cell? ⟨b,o+i*5,none⟩=some (.int .i64 x)∧w.cell? ⟨b,o+i*5+1,none⟩=some (.int .i64 y)∧w.cell? ⟨b,o+i*5+2,none⟩=some (.int .i64 z)∧w.cell? ⟨b,o+i*5+3,none⟩=some (.int .i64 u)∧w.cell? ⟨b,o+i*5+4,none⟩=some (.int .i64 v):=by
 have hl:i<l.length:=by rw [h.1];exact hi
 obtain ⟨b,o,e,hc⟩:=h.2 i _ (Zg hl);exact ⟨b,o,_,_,_,_,_,e,hc⟩
theorem Qbo.setNew {G:Nat→Prop}{V W:World}(h:Qbo G V W){g:Nat}(hg:V.heap.size≤g)(i:Nat)(v:Value):Qbo G V (W.setCell ⟨g,i,none⟩ v) :=
 ⟨fun b hb hl=>((Qbb.set (G:=fun b=>b≠g) W g i v (fun h=>h rfl)) b (by omega) (Yu hl h.2)).trans (h.1 b hb hl),Yx h.2 (by simp [World.setCell])⟩
theorem Qdf.trans {l m n:List Tri}(h:Qdf l m)(g:Qdf m n):Qdf l n:=⟨h.1.trans g.1,h.2.trans g.2⟩
theorem Qdf.getD {l m:List Tri}(h:Qdf l m)(i:Nat):(l.getD i (0,0,0)).1=(m.getD i (0,0,0)).1∧(l.getD i (0,0,0)).2.1=(m.getD i (0,0,0)).2.1:=by
 simp only [Ya]
 cases ha:l[i]? with
 | none =>
  have:m[i]?=none:=Yd (by rw [←h.len];exact List.getElem?_eq_none_iff.1 ha);rw [this];exact ⟨rfl,rfl⟩
 | some a =>
  obtain ⟨b,hb,e1,e2⟩:=h.get ha;rw [hb];exact ⟨e1.symm,e2.symm⟩
theorem Qlo (P:Tri→Bool):∀ (l m:List Tri) (k:Nat),l.map P=m.map P→((l.zipIdx k).filter (fun p=>P p.1)).map (fun p=>(p.2:Int))=((m.zipIdx k).filter (fun p=>P p.1)).map (fun p=>(p.2:Int))
 | [],[],_,_=>rfl
 | [],_::_,_,h=>by simp at h
 | _::_,[],_,h=>by simp at h
 | a::l,b::m,k,h=>by
  simp only [List.map_cons,List.cons.injEq] at h;have ih:=Qlo P l m (k+1) h.2;simp only [List.zipIdx_cons,List.filter_cons,h.1]
  split
  · simp only [List.map_cons,ih]
  · exact ih
theorem Qdf.cross {l m:List Tri}(h:Qdf l m)(c:List Int):Qax l c=Qax m c:=by
 refine Qlo (Qcj c) l m 0 ?_
 apply List.ext_getElem?
 intro i;simp only [Yt]
 cases ha:l[i]? with
 | none =>
  have:m[i]?=none:=Yd (by rw [←h.len];exact List.getElem?_eq_none_iff.1 ha);rw [this]
 | some a =>
  obtain ⟨b,hb,e1,e2⟩:=h.get ha;rw [hb];simp only [Option.map_some,Qcj,e1,e2]
theorem Qdf.gateRow {l m:List Tri}(h:Qdf l m)(c:List Int):gateRow l c=gateRow m c:=by
 have h1:∀ a,toC l c a=toC m c a:=fun a=>by unfold toC;rw [(h.getD a.toNat).2]
 have h2:∀ a,frC l c a=frC m c a:=fun a=>by unfold frC;rw [(h.getD a.toNat).1]
 unfold YtdheeddnkdhfeaaGreatDoor.gateRow;rw [h.cross c];simp only [h1,h2]
theorem Qdf.gatesOf {l m:List Tri}(h:Qdf l m) (ls:List (List Int)):gatesOf l ls=gatesOf m ls:=by
 unfold YtdheeddnkdhfeaaGreatDoor.gatesOf;refine List.map_congr_left (fun c _=>h.gateRow c)
theorem Qfw.alike {W:World}{o:Nat}{l m:List Tri} {ls:List (List Int)} (h:Qfw W o l ls) (ha:Qdf m l):Qfw W o m ls:=by
 obtain ⟨Q,F,T,G,S,L,k,cq,cf,ct,cg,cs,h⟩:=h;have e:=ha.gatesOf ls;exact ⟨Q,F,T,G,S,L,k,cq,cf,ct,cg,cs,h.n0,h.n1,h.n2,h.n3,h.n4,by rw [e];exact h.n5,h.part,by rw [ha.1];exact h.fr,by rw [ha.2];exact h.to,by rw [e];exact h.gates,by rw [e];exact h.starts,h.c0⟩
attribute [local go_sem ↓] Go.wp_at_zero Go.wp_at_succ
section
variable {G:Nat→Prop} {g gc gs n m c:Nat} {A:Option Addr} {R:List Nat} {C:List Int} {S:List Nat}
theorem Qbk.cut {W:World}(h:Qbk W G g A gc gs n m c R C S){L:Nat}(hL:L≤m):Qbk (W.setCell ⟨g,0,none⟩ (.slice A L c)) G g A gc gs n L c (R.take L) C S:=by
 have h1:Own W 0 3 1 A L c (Qaf (nis (R.take L))):=h.row.front_ hL (by simp [Qaf,nis,List.map_take]);refine ⟨?_,h1.far (Qaa _ _ _ _) (.inr fun e=>(h.dA g e).1 rfl),h.cs.far_ (fun e=>h.dg.1 e.symm) _,h.ss.far_ (fun e=>h.dg.2.1 e.symm) _,h.dA,h.dg,h.dG,fun b hb=>by simpa [World.setCell] using h.lt b hb,by rw [Yw,h.lr];omega,h.lc,h.ls,h.n0⟩;exact h.blk.set_ 0 _
set_option maxHeartbeats 1000000 in
theorem Qwe (w:World)(h:Qbk w G g A gc gs n 0 c R C S) :
 Calls prog 102 #[.pointer (some ⟨g,0,none⟩)] w fun e w'=>e=.returned (.tuple #[.int .i64 0,.int .i64 0,.bool false])∧w=w':=by
 have f0:=h.f0;clear h
 go_enter func102,ntmps102
 go_wp2_with fail
 refine bodyPost_ret (v:=.tuple #[.int .i64 0,.int .i64 0,.bool false]) (by simp [results,results102,go_sem]) rfl ?_;exact ⟨rfl,rfl⟩
set_option maxHeartbeats 2000000 in
theorem Qvi (w:World)(L:Nat) (h:Qbk w G g A gc gs n (L+1) c R C S) (hp:HpS n R C S) (ho:Ord (at_ R C) (L+1)) (k:Nat) (hk:R[0]?=some k) (x:Int) (hx:C[k]?=some x) :
 Calls prog 102 #[.pointer (some ⟨g,0,none⟩)] w fun e w'=>e=.returned (.tuple #[.int .i64 k,.int .i64 x,.bool true])∧(∃ (R' S':List Nat),Qbk w' G g A gc gs n L c R' C S'∧HpS n R' C S'∧Ord (at_ R' C) L∧∀ q,q∈R'↔q∈R∧q≠k)∧Aft G w w':=by
 obtain ⟨gr,hgr,hfr⟩:=h.rowBlk (by omega);subst hgr;have hlr:=h.lr;have hcap:=h.cap;have hn0:=h.n0;have hkn:k<n:=(hp.seat 0 k hk).1
 obtain ⟨b,y,la,lb,lc,ld⟩:=hp.key (i:=L) (by omega);have f0:=h.f0;have r0:=h.rowAt hk;have HSW:=Zh (fun V (hV:Qbk V G g (some ⟨gr,0,none⟩) gc gs n (L+1) c R C S)=>(show Calls prog 150 #[.pointer (some ⟨g,0,none⟩),.int .i64 0,.int .i64 L] V _ from Qkh V hV hk la hkn lb))
 have HPP:=Zh (hp.pop hlr hk);have HPO:=Zh (hp.popOrd ho hlr hk);have HH:=Zh h.drew;have i1:((L:Int)+1 == 0)=false:=by simp;omega
 have e1:IntKind.i64.wrap ((L:Int)+1-1)=(L:Int):=by rw [show (L:Int)+1-1=(L:Int) by omega];exact IntWalk.i64_in _ (by omega)
 have hle:=hp.le;clear h hp ho la lc ld
 go_enter func102,ntmps102
 go_wp2_with fail
 refine wp_region_held_drew (S:=fun V=>V.cell? ⟨g,0,none⟩=some (.slice (some ⟨gr,0,none⟩) (L+1) c)∧V.cell? ⟨gr,0,none⟩=some (.int .i64 k)) (by kernel_rfl) ⟨f0,r0⟩ (fun _=>?_);refine tz 0 13 ?_;refine tz 1 14 ?_;refine tz 2 15 ?_;refine tz 3 16 ?_;refine tz 4 17 ?_;refine tz 5 18 ?_;refine tz 6 19 ?_;refine tz 7 20 ?_;refine tz 8 21 ?_;refine tz 9 22 ?_;refine tz 10 23 ?_;refine tz 11 24 ?_;refine tz 12 5 ?_;refine tz 13 6 ?_;refine Zd ?_;clear f0 r0
 go_wp2_with fail
 with_reducible refine (HSW.out _ HH.out).mono ?_
 rintro e w1 ⟨rfl,hw1,ha1⟩;have ha:Aft G w w1:=⟨ha1.kept,ha1.size,fun B hB=>(Zr B w).drew.trans (ha1.bel B hB)⟩;have f0:=hw1.f0;have z0:w1.frozen? ⟨g,0,none⟩=false:=hw1.blk.frozen 0;have hw2:=hw1.cut (L:=L) (by omega);have f2:=hw2.f2;have s2:=hw2.seatAt (i:=k) (Qbp 0 (by rw [hw2.ls];exact hkn));have z2:w1.frozen? ⟨gs,k,none⟩=false:=hw1.ss.frozen k;have hw3:Qbk ((w1.setCell ⟨g,0,none⟩ (.slice (some ⟨gr,0,none⟩) L c)).setCell ⟨gs,k,none⟩ (.int .i64 0)) G g (some ⟨gr,0,none⟩) gc gs n L c _ C _:=hw2.setS (i:=k) (k:=0);have HDN:=Zh (Rar _ hw3 HPP.out.1 HPO.out);have HA3:=Zh ((ha.set hw1.dG.1 (i:=0) (.slice (some ⟨gr,0,none⟩) L c)).set hw1.dG.2.2 (i:=k) (.int .i64 0));have i2:(0:Int)≤(k:Int):=by omega
 have i3:(k:Int)<(n:Int):=by omega
 have i4:(L:Int)≤(c:Int):=by omega
 clear hw1 hw2 hw3 ha ha1 HSW HH
 go_wp2_with fail
 with_reducible refine HDN.out.mono ?_
 rintro e w3 ⟨rfl,R',S',hw3,hp3,ho3,hk3,ha3⟩;have f1:=hw3.f1;have q1:=hw3.costAt hx;have HW4:=Zh hw3.drew;have HA4:=Zh (HA3.out.trans ha3).drew;have HP4:=Zh hp3;have HO4:=Zh ho3;have HK4:=Zh hk3;clear hw3 ha3 hp3 ho3 hk3 HDN HA3 f0 z0 f2 s2 z2
 go_wp2_with fail
 refine wp_region_held_drew (S:=fun V=>V.cell? ⟨g,1,none⟩=some (.slice (some ⟨gc,0,none⟩) n n)∧V.cell? ⟨gc,k,none⟩=some (.int .i64 x)) (by kernel_rfl) ⟨f1,q1⟩ (fun _=>?_);refine tz 0 45 ?_;refine tz 1 46 ?_;refine tz 2 47 ?_;refine tz 3 48 ?_;refine tz 4 49 ?_;refine tz 5 50 ?_;refine tz 6 51 ?_;refine tz 7 52 ?_;refine tz 8 2 ?_;refine tz 9 3 ?_;refine tz 10 4 ?_;refine Zd ?_
 go_wp2_with fail
 refine bodyPost_ret (v:=.tuple #[.int .i64 k,.int .i64 x,.bool true]) (by simp [results,results102,go_sem]) rfl ?_;exact ⟨rfl,⟨R',S',HW4.out,HP4.out,HO4.out,fun q=>(HK4.out q).trans (HPP.out.2.1 q)⟩,HA4.out⟩
theorem Qub (w:World)(hp:Nat→Option Int)(h:Qcu w G g n hp) :
 Calls prog 102 #[.pointer (some ⟨g,0,none⟩)] w fun e w' =>
  (((∀ q,hp q=none)∧e=.returned (.tuple #[.int .i64 0,.int .i64 0,.bool false])∧Qcu w' G g n hp) ∨
   ∃ k x,k<n∧hp k=some x∧(∀ q z,hp q=some z→x≤z)∧e=.returned (.tuple #[.int .i64 (k:Nat),.int .i64 x,.bool true])∧Qcu w' G g n (fun q=>if q=k then none else hp q))∧Aft G w w':=by
 obtain ⟨A,gc,gs,m,c,R,C,S,hw,hs,ho,hin⟩:=h;have hlr:=hw.lr
 rcases m with _|L
 · refine (Qwe w hw).mono ?_
   rintro e w' ⟨rfl,rfl⟩;obtain rfl:=List.eq_nil_of_length_eq_zero hlr;exact ⟨.inl ⟨fun q=>by rw [hin q];simp [Qsq],rfl,A,gc,gs,0,c,[],C,S,hw,hs,ho,hin⟩,Aft.refl _ _⟩
 · obtain ⟨k,x,hk,hkn,hx,_⟩:=hs.key (i:=0) (by omega)
   refine (Qvi w L hw hs ho k hk x hx).mono ?_;rintro e w' ⟨rfl,⟨R',S',k1,k2,k3,k4⟩,ha⟩;have hm:k∈R:=List.mem_iff_getElem?.2 ⟨0,hk⟩;refine ⟨.inr ⟨k,x,hkn,by rw [hin k];unfold Qsq;rw [if_pos hm];exact hx,fun q z hq=>Qvu hs (by rw [hlr];exact ho) hk hx ((hin q).symm.trans hq),rfl,A,gc,gs,L,c,R',C,S',k1,k2,k3,fun q=>?_⟩,ha⟩
   show (if q=k then none else hp q)=_
   unfold Qsq
   by_cases e:q=k
   · rw [if_pos e,if_neg (fun h=>((k4 q).1 h).2 e)]
   · rw [if_neg e,hin q]
     unfold Qsq
     by_cases hq:q∈R
     · rw [if_pos hq,if_pos ((k4 q).2 ⟨hq,e⟩)]
     · rw [if_neg hq,if_neg (fun h=>hq ((k4 q).1 h).1)]
set_option maxHeartbeats 1000000 in
theorem Qwt (w:World)(hp:Nat→Option Int)(h:Qcu w G g n hp) :
 Calls prog 155 #[.pointer (some ⟨g,0,none⟩)] w fun e w'=>e=.returned (.tuple #[])∧Qcu w' G g n (fun _=>none)∧Aft G w w':=by
 obtain ⟨A,gc,gs,m,c,R,C,S,hw,hs,ho,hin⟩:=h;have hlr:=hw.lr;have hcap:=hw.cap;have hn0:=hw.n0;have hle:=hs.le;have f0:=hw.f0;have HH:=Zh hw;have HS:=Zh hs
 have HNO:=Zh (show ∀ q s,S[q]?=some s→q ∉ R→s=0 from fun q s h1 h2=>by
  rcases s with _|s
  · rfl
  · exact absurd (List.mem_iff_getElem?.2 ⟨s,hs.none_ q s h1⟩) h2)
 clear hw hs ho hin
 go_enter func155,ntmps155
 go_wp2_with fail
 go_loopw [9] (fun x W=>∃ (i:Nat) (S':List Nat),x=.int .i64 i∧i≤m∧Qbk W G g A gc gs n m c R C S'∧(∀ q s,S'[q]?=some s→s=0∨(S[q]?=some s∧q ∉ R.take i))∧Aft G w W) (fun x _=>m-(intOf x).toNat)
 case atStart=>exact ⟨0,S,by go_num,by omega,HH.out,fun q s h1=>.inr ⟨h1,by simp⟩,Aft.refl _ _⟩
 case round =>
  obtain ⟨i,S',rfl,him,hw,hz,ha⟩:=hrel
  by_cases hlt:i<m
  · obtain ⟨gr,hgr,hfr⟩:=hw.rowBlk (by omega)
    subst hgr;obtain ⟨k,hk⟩:∃ k,R[i]?=some k:=⟨_,Qbp 0 (by omega)⟩;have hkn:=(HS.out.seat i k hk).1;have r0:=hw.rowAt hk;have f2:=hw.f2;have s0:=hw.seatAt (i:=k) (Qbp 0 (by rw [hw.ls];exact hkn));have z0:wr.frozen? ⟨gs,k,none⟩=false:=hw.ss.frozen k;have hw2:Qbk (wr.setCell ⟨gs,k,none⟩ (.int .i64 0)) G g (some ⟨gr,0,none⟩) gc gs n m c R C (S'.set k 0):=hw.setS (i:=k) (k:=0);have HW2:=Zh hw2;have HA2:=Zh (ha.set hw.dG.2.2 (i:=k) (.int .i64 0));have HZ:=Zh hz;have i1:(0:Int)≤(i:Int):=by omega
    have i2:(i:Int)<(m:Int):=by omega
    have i3:(0:Int)≤(k:Int):=by omega
    have i4:(k:Int)<(n:Int):=by omega
    have hls:=hw.ls;clear hw hz ha hw2
    go_wp2_with fail
    go_roundw
    case rel =>
     refine ⟨i+1,S'.set k 0,by go_num,by omega,HW2.out,fun q s h1=>?_,HA2.out⟩
     by_cases e:k=q
     · subst e
       rw [Yg (by omega)] at h1;exact .inl (Yv h1).symm
     · rw [Yh e] at h1
       rcases HZ.out q s h1 with h2|⟨h2,h3⟩
       · exact .inl h2
       · refine .inr ⟨h2,fun h4=>?_⟩
         rw [List.take_add_one,hk] at h4;simp only [Option.toList_some,List.mem_append,List.mem_singleton] at h4;exact h4.elim h3 (fun e2=>e e2.symm)
    case measure=>simp [intOf];omega
  · obtain rfl:i=m:=by omega
    have f0:=hw.f0;have z0:wr.frozen? ⟨g,0,none⟩=false:=hw.blk.frozen 0;have hw2:=hw.cut (L:=0) (by omega);have HW2:=Zh hw2;have HA2:=Zh (ha.set hw.dG.1 (i:=0) (.slice A 0 c));have HZ:=Zh hz;clear hw hz ha hw2
    go_wp2_with fail
    go_end0
    refine ⟨rfl,⟨A,gc,gs,0,c,[],C,S',HW2.out,⟨HW2.out.lc,HW2.out.ls,fun q k h1=>by simp at h1,fun k q h1=>?_⟩,fun q _ h1=>by omega,fun q=>by simp [Qsq]⟩,HA2.out⟩
    rcases HZ.out k _ h1 with h2|⟨h2,h3⟩
    · omega
    · rw [Ye (by omega)] at h3
      exact absurd (HNO.out k _ h2 h3) (by omega)
theorem Qfe (n:Nat)(hn:n≤1000000000)(W:World):(Instr.makeSlice 36 (.int .i64 (n:Int)) (.int .i64 (n:Int))).run prog W=.ok (.slice (some ⟨W.heap.size,0,none⟩) n n) (W.alloc (.cells (Qbv (.int .i64 0) n) 2)) :=
 Qfh (P:=prog) 36 2 (.int .i64 0) 8 Qhk underlying36 rfl n (by omega) (by omega) .i64 .i64 W
theorem nis_zero (n:Nat):nis (List.replicate n 0)=List.replicate n 0:=by simp [nis]
theorem Qcu.made {W w:World}{n g gc gs:Nat} (hb:Blk W g 258 #[.slice none 0 0,.slice (some ⟨gc,0,none⟩) n n,.slice (some ⟨gs,0,none⟩) n n]) (hc:Blk W gc 2 (Qbv (.int .i64 0) n)) (hs:Blk W gs 3 (Qbv (.int .i64 0) n))
 (h1:g≠gc∧g≠gs∧gc≠gs) (h2:w.heap.size≤g∧w.heap.size≤gc∧w.heap.size≤gs) (hz:w.heap.size≤W.heap.size) (hn:n≤16384):Qcu W (fun b=>b<w.heap.size) g n (fun _=>none):=by
 refine ⟨none,gc,gs,0,0,[],List.replicate n 0,List.replicate n 0,⟨hb,Own.nil _ _ _ _,by rw [←Qct];exact hc,by rw [nis_zero,←Qct];exact hs,fun b e=>by simp [Qac] at e,h1,⟨by omega,by omega,by omega⟩,fun b hb=>by omega,rfl,by simp,by simp,hn⟩,⟨by simp,by simp,fun i k h=>by simp at h,fun k i h=>?_⟩,fun i _ h=>by omega,fun k=>by simp [Qsq]⟩;have:=(Zs h).2;simp at this
set_option maxHeartbeats 1000000 in
theorem Qsz (w:World)(n:Nat)(hn:n≤16384) :
 Calls prog 100 #[.int .i64 n] w fun e w'=>∃ g,e=.returned (.pointer (some ⟨g,0,none⟩))∧Qcu w' (fun b=>b<w.heap.size) g n (fun _=>none)∧Below w.heap.size w w':=by
 have hmk:=Qdo n (by omega);have hmc:=Qfe n (by omega);have e1:max (n:Int) 0=(n:Int):=by omega
 have e2:min (n:Int) 16384=(n:Int):=by omega
 go_enter func100,ntmps100
 go_wp2_with fail
 refine wp_region_held_drew (S:=fun V=>Below w.heap.size w V) (by kernel_rfl) (Zr _ _).drew (fun _=>?_);refine tz 0 6 ?_;refine tz 2 8 ?_;refine wpAnyH_ready (rs:=[1,3]) (by kernel_rfl) (by simp) ?_;refine AllReadyH.cons (o:=_) rfl (fun K hK=>?_) (AllReadyH.cons (o:=_) rfl (fun K hK=>?_) AllReadyH.nil)
 · go_simp
   refine hK.out _ _ Qag (fun _=>?_);clear hK K;refine Zk 3 (fun K hK=>?_);go_simp;refine hK.out _ _ Qag (fun _=>?_);clear hK K;refine tz 4 10 ?_;refine Zk 5 (fun K hK=>?_);go_simp;refine hK.out _ _ Qag (fun _=>?_);clear hK K;refine tz 6 2 ?_;refine Zd ?_
   go_wp2_with fail
   go_ret
   refine ⟨_,rfl,Qcu.made (gc:=w.heap.size) (gs:=w.heap.size+1) Qay Qay Qay ?_ ?_ ?_ hn,Qag⟩
   all_goals (simp;try omega)
 · go_simp
   refine hK.out _ _ Qag (fun _=>?_);clear hK K;refine Zk 1 (fun K hK=>?_);go_simp;refine hK.out _ _ Qag (fun _=>?_);clear hK K;refine tz 4 10 ?_;refine Zk 5 (fun K hK=>?_);go_simp;refine hK.out _ _ Qag (fun _=>?_);clear hK K;refine tz 6 2 ?_;refine Zd ?_
   go_wp2_with fail
   go_ret
   refine ⟨_,rfl,Qcu.made (gs:=w.heap.size) (gc:=w.heap.size+1) Qay Qay Qay ?_ ?_ ?_ hn,Qag⟩
   all_goals (simp;try omega)
end
theorem Qcu.more {W W':World}{G G':Nat→Prop}{g n:Nat}{hp:Nat→Option Int}(h:Qcu W G g n hp)(hb:Below W.heap.size W W') (hG:∀ b,G' b→b<W'.heap.size∧(G b∨W.heap.size≤b)):Qcu W' G' g n hp:=by
 obtain ⟨A,gc,gs,m,c,R,C,S,h1,h2⟩:=h;exact ⟨A,gc,gs,m,c,R,C,S,h1.more hb hG,h2⟩
theorem Qcu.less {W:World}{G G':Nat→Prop}{g n:Nat}{hp:Nat→Option Int}(h:Qcu W G g n hp)(hG:∀ b,G' b→G b):Qcu W G' g n hp:=by
 obtain ⟨A,gc,gs,m,c,R,C,S,h1,h2⟩:=h;exact ⟨A,gc,gs,m,c,R,C,S,h1.more (Zr _ _) (fun b hb=>⟨h1.lt b (hG b hb),.inl (hG b hb)⟩),h2⟩
theorem Qcu.lt {W:World}{G:Nat→Prop}{g n:Nat}{hp:Nat→Option Int}(h:Qcu W G g n hp):∀ b,G b→b<W.heap.size:=by
 obtain ⟨A,gc,gs,m,c,R,C,S,h1,h2⟩:=h;exact h1.lt
theorem Qcu.set {W:World}{G:Nat→Prop}{g n k i:Nat}{hp:Nat→Option Int}(h:Qcu W G g n hp)(hk:G k)(v:Value):Qcu (W.setCell ⟨k,i,none⟩ v) G g n hp:=by
 obtain ⟨A,gc,gs,m,c,R,C,S,h1,h2⟩:=h;have hn:∀ b,¬G b→b≠k:=fun b hb e=>hb (e▸hk)
 exact ⟨A,gc,gs,m,c,R,C,S,⟨h1.blk.far_ (hn _ h1.dG.1) _,h1.row.far (Qaa _ _ _ _) (.inr fun e=>(h1.dA k e).2.2.2 hk),h1.cs.far_ (hn _ h1.dG.2.1) _,h1.ss.far_ (hn _ h1.dG.2.2) _,h1.dA,h1.dg,h1.dG,fun b hb=>by simpa [World.setCell] using h1.lt b hb,h1.lr,h1.lc,h1.ls,h1.n0⟩,h2⟩
theorem Le.kept {K:Nat→Prop}{W0 W:World}(h:Qbb K W0 W):Le (msk W0 K) W:=(Qbb.msk h).trans (Qbd _ _)
theorem Aft.mono {G G':Nat→Prop}{a b:World}(h:Aft G a b)(hs:∀ b,G' b→G b):Aft G' a b:=⟨h.kept.mono hs,h.size,fun B hB=>h.bel B (fun b hb=>hs b (hB b hb))⟩
theorem nis_idx (f:Tri→Int)(l:List Tri)(v:Int):∃ bs:List Nat,nis bs=idx f l v∧∀ b∈bs,∃ y,l[b]?=some y∧f y=v:=by
 refine ⟨(idx f l v).map Int.toNat,?_,fun b hb=>?_⟩
 · unfold nis
   rw [List.map_map];refine (List.map_congr_left (g:=id) fun z hz=>?_).trans (List.map_id _);obtain ⟨i,a,rfl,_⟩:=Qfm.1 hz;simp
 · obtain ⟨z,hz,rfl⟩:=List.mem_map.1 hb
   obtain ⟨i,a,rfl,h1,h2⟩:=Qfm.1 hz;exact ⟨a,by simpa using h1,h2⟩
end Go.Proofs.YtdheeddnkdhfeaaGreatDoor
namespace Go.Proofs.YtdheeddnkdhfeaaGreatDoor
/-! Least costs over steps; plain. -/
abbrev Qbz:=Nat→Nat→Int→Prop
inductive Rch (St:Qbz) (s:Nat):Nat→Int→Prop
 | start:Rch St s s 0
 | step {p q:Nat} {c d:Int}:Rch St s p c→St p q d→Rch St s q (c+d)
theorem Rch.pos {St:Qbz}(h0:∀ p q d,St p q d→0≤d){s p:Nat}{c:Int}(h:Rch St s p c):0≤c:=by
 induction h with
 | start=>exact Int.le_refl _
 | step _ h2 ih=>have:=h0 _ _ _ h2;omega
theorem Rch.trans {St:Qbz}{s p q:Nat}{c d:Int}(h:Rch St s p c)(g:Rch St p q d):Rch St s q (c+d):=by
 induction g with
 | start=>simpa using h
 | step _ h2 ih=>rw [←Int.add_assoc];exact ih.step h2
theorem Rch.mono {St St':Qbz}(hm:∀ p q d,St p q d→St' p q d){s p:Nat}{c:Int}(h:Rch St s p c):Rch St' s p c:=by
 induction h with
 | start=>exact .start
 | step _ h2 ih=>exact ih.step (hm _ _ _ h2)
def Ras (St Out:Qbz)(s k:Nat)(v:Int):Prop:=∃ p c d,Rch St s p c∧Out p k d∧v=c+d
def INF:Int:=1152921504606846976
def Lst (P:Int→Prop)(v:Int):Prop:=(P v∧∀ c,P c→v≤c)∨(v=INF∧∀ c,¬P c)
theorem Lst.uniq {P:Int→Prop}{a b:Int}(h:Lst P a)(g:Lst P b):a=b:=by
 rcases h with ⟨h1,h2⟩|⟨h1,h2⟩ <;> rcases g with ⟨g1,g2⟩|⟨g1,g2⟩
 · have:=h2 _ g1;have:=g2 _ h1;omega
 · exact absurd h1 (g2 _)
 · exact absurd g1 (h2 _)
 · rw [h1,g1]
theorem Lst.conv {P Q:Int→Prop}{v:Int}(h:Lst P v)(h1:∀ c,P c→∃ d,Q d∧d≤c)(h2:∀ c,Q c→∃ d,P d∧d≤c):Lst Q v:=by
 rcases h with ⟨hv,hm⟩|⟨hv,hn⟩
 · left
   obtain ⟨d,hd,hle⟩:=h1 v hv;obtain ⟨e,he,hle2⟩:=h2 d hd;have h3:=hm e he;have:d=v:=by omega
   subst this;refine ⟨hd,fun c hc=>?_⟩;obtain ⟨e,he,hle⟩:=h2 c hc;have:=hm e he;omega
 · right
   refine ⟨hv,fun c hc=>?_⟩;obtain ⟨e,he,_⟩:=h2 c hc;exact hn e he
/-! Cells within cells: K p: the kid in which one stands behind p; In: the steps within a kid. -/
structure Qkd (St Out:Qbz) (SK:Qbz) (E:Nat→Nat→Int→Prop) (CSt COut:Qbz) (ins:Nat→Prop) (W:Nat→Int) (T:Nat→Nat→Int→Prop):Prop where
 /-- a step within a kid is a step; what is no such step goes out of the kid, by an arc that is an entry's end -/
 sub:∀ p q d,SK p q d→St p q d
 split:∀ p q d,St p q d→SK p q d∨(ins q∧∃ t,T p q t∧d=t+W q∧0≤W q)
 join:∀ a p q c t,ins a→Rch SK a p c→T p q t→(∃ d,St p q d∧¬SK p q d)→St p q (t+W q)
 /-- coarse steps -/
 cst:∀ a q d,CSt a q d→ins a∧ins q∧∃ v,E a q v∧d=v+W q∧(∃ p c t,Rch SK a p c∧T p q t∧v=c+t∧St p q (t+W q))
 cst2:∀ a p q c t,ins a→Rch SK a p c→T p q t→ins q→St p q (t+W q)→¬SK p q (t+W q)→∃ d,CSt a q d∧d≤c+t+W q
 cout:∀ a k d,COut a k d→∃ p c t,Rch SK a p c∧Out p k t∧d=c+t
 cout2:∀ a p k c t,ins a→Rch SK a p c→Out p k t→∃ d,COut a k d∧d≤c+t
theorem Qkd.up {St Out SK:Qbz}{E:Nat→Nat→Int→Prop}{CSt COut:Qbz}{ins:Nat→Prop}{W:Nat→Int}{T:Nat→Nat→Int→Prop}(h:Qkd St Out SK E CSt COut ins W T)
 {s q:Nat} {c:Int} (hr:Rch CSt s q c):Rch St s q c:=by
 induction hr with
 | start=>exact .start
 | step h1 h2 ih =>
  obtain ⟨_,_,v,_,rfl,p,c',t,h3,h4,rfl,h5⟩:=h.cst _ _ _ h2;have:=(ih.trans (h3.mono h.sub)).step h5;rw [show ∀ a b c d:Int,a+b+(c+d)=a+(b+c+d) from fun a b c d=>by omega] at this
  exact this
theorem Qkd.down {St Out SK:Qbz}{E:Nat→Nat→Int→Prop}{CSt COut:Qbz}{ins:Nat→Prop}{W:Nat→Int}{T:Nat→Nat→Int→Prop}(h:Qkd St Out SK E CSt COut ins W T)
 (hsk:∀ p q d,St p q d→SK p q d∨¬SK p q d) {s q:Nat} {c:Int} (hs:ins s) (hr:Rch St s q c):∃ a c1 c2,ins a∧Rch CSt s a c1∧Rch SK a q c2∧c1+c2≤c:=by
 induction hr with
 | start=>exact ⟨s,0,0,hs,.start,.start,by omega⟩
 | @step p q c d h1 h2 ih =>
  obtain ⟨a,c1,c2,ha,g1,g2,g3⟩:=ih
  rcases hsk _ _ _ h2 with hk|hk
  · exact ⟨a,c1,c2+d,ha,g1,g2.step hk,by omega⟩
  · rcases h.split _ _ _ h2 with hk'|⟨hq,t,ht,rfl,hw⟩
    · exact absurd hk' hk
    · obtain ⟨e,he,hle⟩:=h.cst2 a p q c2 t ha g2 ht hq h2 hk
      exact ⟨q,c1+e,0,hq,g1.step he,.start,by omega⟩
theorem Qkd.same {St Out SK:Qbz}{E:Nat→Nat→Int→Prop}{CSt COut:Qbz}{ins:Nat→Prop}{W:Nat→Int}{T:Nat→Nat→Int→Prop}(h:Qkd St Out SK E CSt COut ins W T)
 (hsk:∀ p q d,St p q d→SK p q d∨¬SK p q d) {s k:Nat} {v:Int} (hs:ins s) (hl:Lst (Ras CSt COut s k) v):Lst (Ras St Out s k) v:=by
 refine hl.conv (fun c hc=>?_) (fun c hc=>?_)
 · obtain ⟨a,c1,d,h1,h2,rfl⟩:=hc
   obtain ⟨p,c2,t,h3,h4,rfl⟩:=h.cout _ _ _ h2;exact ⟨_,⟨p,c1+c2,t,(h.up h1).trans (h3.mono h.sub),h4,rfl⟩,by omega⟩
 · obtain ⟨p,c1,t,h1,h2,rfl⟩:=hc
   obtain ⟨a,e1,e2,ha,g1,g2,g3⟩:=h.down hsk hs h1;obtain ⟨d,hd,hle⟩:=h.cout2 a p k e2 t ha g2 h2;exact ⟨_,⟨a,e1,d,g1,hd,rfl⟩,by omega⟩
/-! The least first. -/
structure Dij (St:Qbz) (s:Nat) (dn:Nat→Option Int) (hp:Nat→Option Int):Prop where
 dr:∀ p c,dn p=some c→Rch St s p c
 dm:∀ p c,dn p=some c→∀ e,Rch St s p e→c≤e
 hr:∀ p c,hp p=some c→Rch St s p c
 off:∀ p c,dn p=some c→hp p=none
 on:∀ p c q d,dn p=some c→St p q d→(∃ e,dn q=some e∧e≤c+d)∨(∃ e,hp q=some e∧e≤c+d)
 st:dn s≠none∨∃ e,hp s=some e∧e≤0
theorem Dij.wait {St:Qbz}{s:Nat}{dn hp:Nat→Option Int}(h:Dij St s dn hp)(h0:∀ p q d,St p q d→0≤d){p:Nat}{c:Int}(hr:Rch St s p c):(∃ e,dn p=some e∧e≤c)∨∃ q e,hp q=some e∧e≤c:=by
 induction hr with
 | start =>
  rcases h.st with h1|⟨e,h1,h2⟩
  · left
    cases hd:dn s with
    | none=>exact absurd hd h1
    | some e=>exact ⟨e,rfl,h.dm s e hd 0 .start⟩
  · exact .inr ⟨s,e,h1,h2⟩
 | @step p q c d h1 h2 ih =>
  have hd:=h0 _ _ _ h2
  rcases ih with ⟨e,h3,h4⟩|⟨r,e,h3,h4⟩
  · rcases h.on p e q d h3 h2 with ⟨f,h5,h6⟩|⟨f,h5,h6⟩
    · exact .inl ⟨f,h5,by omega⟩
    · exact .inr ⟨q,f,h5,by omega⟩
  · exact .inr ⟨r,e,h3,by omega⟩
theorem Dij.least {St:Qbz}{s:Nat}{dn hp:Nat→Option Int}(h:Dij St s dn hp)(h0:∀ p q d,St p q d→0≤d){p:Nat}{c:Int}(hp1:hp p=some c)(hm:∀ q e,hp q=some e→c≤e):∀ e,Rch St s p e→c≤e:=by
 intro e hr
 rcases h.wait h0 hr with ⟨f,h1,_⟩|⟨q,f,h1,h2⟩
 · have:=h.off p f h1
   rw [hp1] at this
   cases this
 · have:=hm q f h1
   omega
theorem Dij.all {St:Qbz}{s:Nat}{dn hp:Nat→Option Int}(h:Dij St s dn hp)(h0:∀ p q d,St p q d→0≤d)(he:∀ q,hp q=none){p:Nat}{c:Int}(hr:Rch St s p c):∃ e,dn p=some e∧e≤c:=by
 rcases h.wait h0 hr with h1|⟨q,e,h1,_⟩
 · exact h1
 · rw [he q] at h1;cases h1
structure Qqv (St:Qbz) (s:Nat) (dn hp:Nat→Option Int) (p:Nat) (c:Int) (Gone:Nat→Int→Prop):Prop where
 dr:∀ q e,dn q=some e→Rch St s q e
 dm:∀ q e,dn q=some e→∀ f,Rch St s q f→e≤f
 hr:∀ q e,hp q=some e→Rch St s q e
 off:∀ q e,dn q=some e→hp q=none
 on:∀ q e r d,dn q=some e→St q r d→(q=p∧¬Gone r d)∨(∃ f,dn r=some f∧f≤e+d)∨(∃ f,hp r=some f∧f≤e+d)
 st:dn s≠none∨∃ e,hp s=some e∧e≤0
 at_:dn p=some c
theorem Dij.take {St:Qbz}{s:Nat}{dn hp:Nat→Option Int}(h:Dij St s dn hp)(h0:∀ p q d,St p q d→0≤d){p:Nat}{c:Int}(hp1:hp p=some c)(hm:∀ q e,hp q=some e→c≤e) :
 Qqv St s (fun q=>if q=p then some c else dn q) (fun q=>if q=p then none else hp q) p c (fun _ _=>False) where
 dr:=fun q e he=>by
  by_cases hq:q=p
  · subst hq;simp at he;subst he;exact h.hr q c hp1
  · simp [hq] at he;exact h.dr q e he
 dm:=fun q e he f hf=>by
  by_cases hq:q=p
  · subst hq;simp at he;subst he;exact h.least h0 hp1 hm f hf
  · simp [hq] at he;exact h.dm q e he f hf
 hr:=fun q e he=>by
  by_cases hq:q=p
  · simp [hq] at he
  · simp [hq] at he;exact h.hr q e he
 off:=fun q e he=>by
  by_cases hq:q=p
  · simp [hq]
  · simp [hq] at he ⊢;exact h.off q e he
 on:=fun q e r d he hs=>by
  by_cases hq:q=p
  · exact .inl ⟨hq,fun h=>h⟩
  · simp [hq] at he
    right
    rcases h.on q e r d he hs with ⟨f,h1,h2⟩|⟨f,h1,h2⟩
    · by_cases hr:r=p
      · subst hr
        have:=h.off r f h1;rw [hp1] at this
        cases this
      · exact .inl ⟨f,by simp [hr,h1],h2⟩
    · by_cases hr:r=p
      · subst hr
        rw [hp1] at h1
        cases h1
        exact .inl ⟨c,by simp,h2⟩
      · exact .inr ⟨f,by simp [hr,h1],h2⟩
 st:=by
  by_cases hs:s=p
  · left;simp [hs]
  · rcases h.st with h1|⟨e,h1,h2⟩
    · left;simpa [hs] using h1
    · right;exact ⟨e,by simp [hs,h1],h2⟩
 at_:=by simp
theorem Qqv.put {St:Qbz}{s:Nat}{dn hp hp':Nat→Option Int}{p q:Nat}{c d:Int}{Gone:Nat→Int→Prop}(h:Qqv St s dn hp p c Gone)(hs:St p q d)
 (hput:(dn q≠none∧(∀ e,dn q=some e→e≤c+d)∧hp'=hp)∨(dn q=none∧(∀ r,r≠q→hp' r=hp r)∧((∃ e,hp q=some e∧e≤c+d∧hp' q=some e)∨((∀ e,hp q=some e→c+d≤e)∧hp' q=some (c+d))))) :
 Qqv St s dn hp' p c (fun r e=>Gone r e∨(r=q∧e=d)) where
 dr:=h.dr
 dm:=h.dm
 hr:=fun r e he=>by
  rcases hput with ⟨_,_,rfl⟩|⟨_,h2,h3⟩
  · exact h.hr r e he
  · by_cases hr:r=q
    · subst hr
      rcases h3 with ⟨f,h4,_,h5⟩|⟨_,h5⟩
      · rw [h5] at he;cases he;exact h.hr r _ h4
      · rw [h5] at he;cases he;exact (h.dr p c h.at_).step hs
    · rw [h2 r hr] at he;exact h.hr r e he
 off:=fun r e he=>by
  rcases hput with ⟨_,_,rfl⟩|⟨h1,h2,_⟩
  · exact h.off r e he
  · by_cases hr:r=q
    · subst hr;rw [h1] at he;cases he
    · rw [h2 r hr];exact h.off r e he
 on:=fun r e t f he hst=>by
  have key:∀ g,(∃ x,hp t=some x∧x≤g)→∃ x,hp' t=some x∧x≤g:=fun g ⟨x,h1,h2⟩=>by
   rcases hput with ⟨_,_,rfl⟩|⟨_,h4,h5⟩
   · exact ⟨x,h1,h2⟩
   · by_cases ht:t=q
     · subst ht
       rcases h5 with ⟨y,h6,_,h7⟩|⟨h6,h7⟩
       · rw [h1] at h6;cases h6;exact ⟨x,h7,h2⟩
       · exact ⟨c+d,h7,by have:=h6 x h1;omega⟩
     · exact ⟨x,by rw [h4 t ht];exact h1,h2⟩
  rcases h.on r e t f he hst with ⟨h1,h2⟩|h1|h1
  · by_cases hg:t=q∧f=d
    · obtain ⟨rfl,rfl⟩:=hg
      subst h1;rw [h.at_] at he
      cases he
      right
      rcases hput with ⟨h3,h4,rfl⟩|⟨h3,h4,h5⟩
      · left
        cases hd:dn t with
        | none=>exact absurd hd h3
        | some x=>exact ⟨x,rfl,h4 x hd⟩
      · right
        rcases h5 with ⟨y,h6,h7,h8⟩|⟨_,h8⟩
        · exact ⟨y,h8,h7⟩
        · exact ⟨_,h8,Int.le_refl _⟩
    · exact .inl ⟨h1,fun hx=>hx.elim h2 hg⟩
  · exact .inr (.inl h1)
  · exact .inr (.inr (key _ h1))
 st:=by
  rcases h.st with h1|⟨e,h1,h2⟩
  · exact .inl h1
  · right
    rcases hput with ⟨_,_,rfl⟩|⟨_,h4,h5⟩
    · exact ⟨e,h1,h2⟩
    · by_cases ht:s=q
      · subst ht
        rcases h5 with ⟨y,h6,_,h7⟩|⟨h6,h7⟩
        · rw [h1] at h6;cases h6;exact ⟨e,h7,h2⟩
        · exact ⟨c+d,h7,by have:=h6 e h1;omega⟩
      · exact ⟨e,by rw [h4 s ht];exact h1,h2⟩
 at_:=h.at_
theorem Qqv.done {St:Qbz}{s:Nat}{dn hp:Nat→Option Int}{p:Nat}{c:Int}{Gone:Nat→Int→Prop}(h:Qqv St s dn hp p c Gone)(hg:∀ q d,St p q d→Gone q d):Dij St s dn hp :=
 ⟨h.dr,h.dm,h.hr,h.off,fun q e r d h1 h2=>by
  rcases h.on q e r d h1 h2 with ⟨h3,h4⟩|h3|h3
  · subst h3;exact absurd (hg r d h2) h4
  · exact .inl h3
  · exact .inr h3,h.st⟩
structure OutB (Out:Qbz) (dn:Nat→Option Int) (k:Nat) (b:Int) (Extra:Int→Prop):Prop where
 lo:∀ p c d,dn p=some c→Out p k d→¬Extra (c+d)→b≤c+d
 hit:b=INF∨∃ p c d,dn p=some c∧Out p k d∧b=c+d
theorem OutB.least {St Out:Qbz}{s k:Nat}{dn hp:Nat→Option Int}{b:Int}(h:Dij St s dn hp)(h0:∀ p q d,St p q d→0≤d)(he:∀ q,hp q=none) (hb:OutB Out dn k b (fun _=>False)) (hlt:∀ p c d,dn p=some c→Out p k d→c+d<INF):Lst (Ras St Out s k) b:=by
 rcases hb.hit with h1|⟨p,c,d,h1,h2,h3⟩
 · right
   refine ⟨h1,fun v ⟨p,c,d,h2,h3,h4⟩=>?_⟩;obtain ⟨e,h5,_⟩:=h.all h0 he h2;have:=hb.lo p e d h5 h3 (fun h=>h);have:=hlt p e d h5 h3;omega
 · left
   refine ⟨⟨p,c,d,h.dr p c h1,h2,h3⟩,fun v ⟨q,e,f,h4,h5,h6⟩=>?_⟩;obtain ⟨x,h7,h8⟩:=h.all h0 he h4;have:=hb.lo q x f h7 h5 (fun h=>h);omega
end Go.Proofs.YtdheeddnkdhfeaaGreatDoor
