/- Parts of the proof: Yw, Fx, AsB, Yy, Pe. -/
import Derived.Test.YtdheeddnkdhfeaaGreatDoorH22
namespace Go.Proofs.YtdheeddnkdhfeaaGreatDoor
open Go.RowKit Go.Proofs.Tryz
attribute [local go_sem ↓] Go.wp_at_zero Go.wp_at_succ
def DlI (N:Qam)(mk:List Bool)(a:Nat)(l':List Nat)(nx:Nat)(v:Int)(i:Nat)(S:Int):Prop :=
 (i=0∧S=0)∨(∃ I p,i=I+1∧I≤l'.length∧(a::l')[I]?=some p∧Qed (StA N mk) a p S (l'.take I))∨(i=nx∧S=v)
section
variable (w:World) (A B C Q:Option Addr) (n m k c d e L cq:Nat) (N:Qam) (ls:List (List Int)) (xA xB xC xG xE:Value) (X:Option Addr) (nx cx a b j:Nat) (cc v:Int) (l:List Int) (L':List Nat)
set_option maxRecDepth 20000 in
set_option maxHeartbeats 4000000 in
theorem Qvl (h:Qbz w A B C n m k N)(hok:Qap N)(hq:RdT w Q L ls)(hP:Qat N.vs.length ls) (hl:ls[j]?=some l) (he:enF N ls ((j:Int)+1) (a:Int)=cc) (ho:Opn N (Qbv l cc) a b v L') (hv:v≤70375186628608) (hX:RdI w X nx (nis (a::L'))) (hn:nx≤1000000000) (ha:a<N.ar.length) :
 Calls prog 24 #[.agg #[.slice A n c,.slice B m d,.slice C k e],.agg #[xA,xB,xC,.slice Q L cq,xG,xE],.int .i64 ((j:Int)+1),.int .i64 a,.int .i64 b,.int .i64 v,.slice X nx cx] w fun r w'=>r=.returned (.bool true)∧Below w.heap.size w w':=by
 have hm:m=N.ar.length:=h.2.1.1.symm;have hL6:L≤6:=by rw [←hq.1];exact hP.l6
 obtain ⟨⟨p9,c9,e9,l',hr9,ho9,rfl,rfl⟩,hnd⟩:=ho;have hnx:nx=l'.length+2:=by have:=hX.1;rw [Qdf] at this;simp at this;omega
 have hpos:∀ p q d,StW N p q d→0≤d:=fun p q d h=>(h.bd hok).1
 have hlt:b<N.ar.length:=Opn.lt (v:=c9+e9) ⟨⟨p9,c9,e9,l',hr9,ho9,rfl,rfl⟩,hnd⟩ b (by simp)
 have HEL:=Zh (show ∀ (i q:Nat),(a::(l' ++[b]))[i]?=some q→∃ y,N.ar[q]?=some y from fun i q hq=>by
  cases i with
  | zero=>cases hq;exact ⟨_,Zg ha⟩
  | succ i =>
   rw [List.getElem?_cons_succ] at hq;exact ⟨_,Zg (Opn.lt (v:=c9+e9) ⟨⟨p9,c9,e9,l',hr9,ho9,rfl,rfl⟩,hnd⟩ q (Zm hq))⟩)
 have HPR:=Zh (show ∀ (i p q:Nat) (c1:Int),(a::l')[i]?=some p→l'[i]?=some q→Qed (StA N (Qbv l cc)) a p c1 (l'.take i)→∃ y,N.ar[q]?=some y∧(Qai N p q≠1152921504606846976∧0≤Qai N p q∧Qai N p q≤2147483648)∧(y.2.2≠1152921504606846976∧0≤y.2.2∧y.2.2≤2147483648)∧((Qbv l cc).getD y.1.toNat false=true∧(Qbv l cc).getD y.2.1.toNat false=true)∧0≤c1∧c1+(Qai N p q+y.2.2)≤c9∧Qed (StA N (Qbv l cc)) a q (c1+Qai N p q+y.2.2) (l'.take (i+1)) from fun i p q c1 hp hq hr1=>by
  obtain ⟨p',c',d',g1,g2,g3⟩:=hr9.pair i q hq;rw [hp] at g1
  cases g1
  obtain ⟨y,hy,h1,h2,h3,h4,rfl⟩:=g3;have g3:StA N (Qbv l cc) p q (Qai N p q+y.2.2):=⟨y,hy,h1,h2,h3,h4,rfl⟩
  have hr2:Qed (StA N (Qbv l cc)) a q (c1+Qai N p q+y.2.2) (l'.take (i+1)):=by
   rw [Qle hq,Int.add_assoc];exact hr1.step g3
  have hr9':=hr9.mono (fun _ _ _ h=>h.all);obtain ⟨c3,c4,g5,g6,rfl⟩:=hr9'.at_ (i+1) q (by rw [List.getElem?_cons_succ];exact hq);obtain ⟨_,e⟩:=(hr2.mono (fun _ _ _ h=>h.all)).fn (fun _ _ _ _ a b=>a.fn b) g5;have h5:=g6.rch.pos hpos;have h6:=(hr1.mono (fun _ _ _ h=>h.all)).rch.pos hpos;have ht:=(Qcb hok p q).resolve_left h1;have hw:=(Qdk (hok.arcs y (Zm hy)).w).resolve_left h2;exact ⟨y,hy,⟨h1,ht⟩,⟨h2,hw⟩,⟨h3,h4⟩,h6,by omega,hr2⟩)
 have HPOS:=Zh (show c9+e9≤70375186628608∧0≤e9 from ⟨hv,by have:=(Qcb hok p9 b).resolve_left ho9.1;have:=ho9.2;omega⟩)
 have HLAST:=Zh (show ∀ (p:Nat) (c1:Int),Qed (StA N (Qbv l cc)) a p c1 l'→(Qai N p b≠1152921504606846976∧0≤Qai N p b∧Qai N p b≤2147483648)∧0≤c1∧c1+Qai N p b=c9+e9 from fun p c1 g=>by
  obtain ⟨rfl,rfl⟩:=(hr9.mono (fun _ _ _ h=>h.all)).fn (fun _ _ _ _ a b=>a.fn b) (g.mono (fun _ _ _ h=>h.all));obtain ⟨h1,h2⟩:=ho9;exact ⟨⟨h1,(Qcb hok _ b).resolve_left h1⟩,(g.mono (fun _ _ _ h=>h.all)).rch.pos hpos,by rw [h2]⟩)
 obtain ⟨l0,hl0⟩:∃ l0,ls[0]?=some l0:=⟨_,Zg (by have:=(Zs hl).1;omega)⟩;have hn4:n≤4096:=by rw [←h.1.1];exact hok.lv
 have HTU:=Zh (fun V (hV:Below w.heap.size w V) a b x y hx hy=>Qvm A B C n m k c d e N a b x y V (h.below hV) hok hx hy);have HEN:=Zh (fun V (hV:Below w.heap.size w V)=>he▸Qeb A B C Q n m k c d e L cq N ls ((j:Int)+1) (a:Int) V (h.below hV) hok (hq.below hV) hP);have HMK:=Zh (fun V (hV:Below w.heap.size w V)=>Qkz Q L cq j n cc ls l l0 V (hq.below hV) hl (by omega) hl0 (by rw [(hP.lvl l (Zm hl)).len];exact h.1.1) (by rw [(hP.lvl l0 (Zm hl0)).len];exact h.1.1) (by omega));obtain ⟨xb,xo,rfl,x0⟩:=hX.2 0 (a:Int) (Qdo rfl);obtain ⟨_,_,e8,x1⟩:=hX.2 (l'.length+1) (b:Int) (Qdo (by rw [List.getElem?_cons_succ,Yb (Zn _),Yy];rfl));cases e8;rw [Nat.add_zero] at x0;have HH:=Zh h;have HX:=Zh hX;have HM:=Zh hm;have HNX:=Zh hnx;have HOK:=Zh hok;have f1:¬((nx:Int)<2):=by omega
 have f2:(nx:Int)-1=((l'.length+1:Nat):Int):=by omega
 have f3:IntKind.i64.wrap ((l'.length+1:Nat):Int)=((l'.length+1:Nat):Int):=IntWalk.i64_in _ (by omega);have f4:((l'.length+1:Nat):Int)<(nx:Int):=by omega
 have f5:0<nx:=by omega
 have f6:(0:Int)≤((l'.length+1:Nat):Int):=by omega
 obtain ⟨I9,hI9⟩:=Zx (l'.length+1);rw [←hI9] at f2 f3 f4 f6 x1;have HI9:=Zh hI9;clear h hok hr9 ho9 hX hm hnx hpos hnd hlt hl0 he hl hq hP hI9;have z0:∀ o1 o2,((w.alloc o1).alloc o2).cell? ⟨xb,xo,none⟩=some (.int .i64 (a:Int)):=fun o1 o2=>Zc (B:=w.heap.size) Qah (Zn _) x0
 have z1:∀ o1 o2,((w.alloc o1).alloc o2).cell? ⟨xb,xo+I9,none⟩=some (.int .i64 (b:Int)):=fun o1 o2=>Zc (B:=w.heap.size) Qah (Zn _) x1
 go_enter func24,ntmps24
 go_wp2_with fail
 (refine Qaj ?_;intro w1 hw1);have hb1:Below w.heap.size w w1:=by rw [hw1];exact Qah
 have HJ1:=Zh (show Blk w1 w.heap.size 26 #[.slice A n c,.slice B m d,.slice C k e] by rw [hw1];exact Qbi);have HO1:=Zh (show Blk w1 (w.heap.size+1) 57 #[xA,xB,xC,.slice Q L cq,xG,xE] by rw [hw1];exact Qbi)
 have HSX:=Zh (show ∀ V,Below w1.heap.size w1 V→V.cell? ⟨w.heap.size,0,none⟩=some (.slice A n c)∧V.cell? ⟨w.heap.size,1,none⟩=some (.slice B m d)∧V.cell? ⟨w.heap.size,2,none⟩=some (.slice C k e)∧V.cell? ⟨w.heap.size+1,3,none⟩=some (.slice Q L cq) from fun V hV=>by
  have h1:=HJ1.out.below hV HJ1.out.lt;have h2:=HO1.out.below hV HO1.out.lt;exact ⟨Zq h1,Zq h1,Zq h1,Zq h2⟩)
 clear hw1 x0 x1 z0 z1 f1 f2 f3 f4 f6;refine wp_region_held_drew (S:=fun V=>Below w1.heap.size w1 V) (by kernel_rfl) (Zr _ _).drew (fun _=>?_);refine tzd 0 40 ?_;refine tzd 4 44 ?_;refine Zk 8 (fun K hK=>?_);go_simp;with_reducible refine (HEN.out _ (Zb hb1 (Zr _ _).drew)).mono ?_
 rintro r w2 ⟨rfl,hb2⟩;have hb2':Below w1.heap.size w1 w2:=(Zr _ _).drew.trans hb2;go_simp;refine hK.out _ _ hb2' (fun _=>?_);clear hK K;refine Zk 9 (fun K hK=>?_);go_simp;with_reducible refine (HMK.out w2 (Zb hb1 hb2')).mono ?_
 rintro r w3 ⟨mb,rfl,hmb,hmz,hb3⟩;have hb3':Below w1.heap.size w1 w3:=Zb hb2' hb3;go_simp;refine hK.out _ _ hb3' (fun _=>?_);clear hK K;refine tz 10 15 ?_;refine Zd ?_;have HB3:=Zh (Zb hb1 hb3');have HJ:=Zh (HJ1.out.below hb3' HJ1.out.lt);have HMB:=Zh hmb;clear HSX hb1 hb2 hb2' hb3 hb3' hmb hmz HEN HMK HO1 HJ1;go_wp2_with fail
 go_loopw [16,17] (fun us ui W=>∃ (i:Nat) (S:Int),i≤nx∧ui=.int .i64 i∧us=.int .i64 S∧Hid (DlI N (Qbv l cc) a l' nx (c9+e9) i S)∧Below w3.heap.size w3 W) (fun _ ui _=>nx-(intOf ui).toNat)
 case atStart=>exact ⟨0,0,Nat.zero_le _,rfl,rfl,Zh (.inl ⟨rfl,rfl⟩),Zr _ _⟩
 case round =>
  obtain ⟨i,S,hi,rfl,rfl,HI,hbl⟩:=hrel;have HBL:=Zh hbl;by_cases hlt:i<nx
  rotate_left
  · (obtain rfl:i=nx:=by omega);have j2:¬((i:Int)<i):=by omega
    have HS:=Zh (show S=c9+e9 from by
     rcases HI.out with ⟨h1,_⟩|⟨I,p,h1,h2,_⟩|⟨_,h1⟩
     · omega
     · have:=HNX.out;omega
     · exact h1)
    clear hbl;have hS:=HS.out;(go_wp2_with fail);go_ret;exact ⟨rfl,Zb HB3.out HBL.out⟩
  obtain ⟨q,hq⟩:∃ q,(a::(l' ++[b]))[i]?=some q:=⟨_,Zg (by simp only [List.length_cons,Yp,List.length_nil];have:=HNX.out;omega)⟩;obtain ⟨y,hy⟩:=HEL.out i q hq;obtain ⟨_,_,e9,x0⟩:=HX.out.2 i (q:Int) (Qdo hq);cases e9;have hqm:q<m:=by rw [HM.out];exact (Zs hy).1
  have hbw:=Zb HB3.out hbl;obtain ⟨ab,ao,hB,d0,d1,d2⟩:=(HH.out.below hbw).2.1.2 q y hy;subst hB;have j1:(i:Int)<nx:=by omega
  have j2:0≤(i:Int):=by omega
  have j3:(q:Int)<m:=by omega
  have j4:0≤(q:Int):=by omega
  have HY:=Zh hy
  have HSX:=Zh (show ∀ V,Below wr.heap.size wr V→V.cell? ⟨w.heap.size,0,none⟩=some (.slice A n c)∧V.cell? ⟨w.heap.size,1,none⟩=some (.slice (some ⟨ab,ao,none⟩) m d)∧V.cell? ⟨w.heap.size,2,none⟩=some (.slice C k e)∧V.cell? ⟨xb,xo+i,none⟩=some (.int .i64 (q:Int))∧V.cell? ⟨ab,ao+q*3,none⟩=some (.int .i64 y.1)∧V.cell? ⟨ab,ao+q*3+1,none⟩=some (.int .i64 y.2.1)∧V.cell? ⟨ab,ao+q*3+2,none⟩=some (.int .i64 y.2.2) from fun V hV=>by
   have hJ:=HJ.out.below (Zb HBL.out hV) HJ.out.lt;exact ⟨Zq hJ,Zq hJ,Zq hJ,Zc (Zb hbw hV) (Zn _) x0,Zc hV (Zn _) d0,Zc hV (Zn _) d1,Zc hV (Zn _) d2⟩)
  have HBW:=Zh hbw;clear hbl hbw x0 d0 d1 d2 hy;rcases HI.out with ⟨h1,h2⟩|⟨I,p,h1,h2,hp,hrc⟩|⟨h1,_⟩
  {subst h1;subst h2;clear hq;have HSY:=Zh (fun V hV=>by have h:=HSX.out V hV;rw [Nat.add_zero] at h;exact h);clear HSX;have HSX:=HSY;clear HSY HI;(go_wp2_with fail);(refine wp_region_held_drew (S:=fun V=>Below wr.heap.size wr V) (by kernel_rfl) (Zr _ _).drew (fun _=>?_);refine tzd 0 56 ?_;refine tz 4 60 ?_;refine Zk 5 (fun K hK=>?_);go_simp;with_reducible refine (Qcy A (some ⟨ab,ao,none⟩) C n m k c d e q _ (by omega) (by omega)).mono ?_);rintro r w6 ⟨rfl,hb6⟩;have hb6':Below wr.heap.size wr w6:=(Zr _ _).drew.trans hb6;go_simp;refine hK.out _ _ hb6' (fun _=>?_);clear hK K;refine tz 6 62 ?_;refine Zd ?_;have HB6:=Zh (Zb HBL.out hb6');clear HSX hb6 hb6';(go_wp2_with fail);go_roundw;(case rel=>exact ⟨1,0,by omega,by go_num,rfl,Zh (.inr (.inl ⟨0,a,rfl,Nat.zero_le _,rfl,.start⟩)),HB6.out⟩);case measure=>simp [intOf];omega}
  · subst h1;have hpR:(a::(l' ++[b]))[I]?=some p:=by{rw [←List.cons_append,Yc (by rw [List.length_cons];omega)];exact hp};obtain ⟨x,hx⟩:=HEL.out I p hpR;obtain ⟨_,_,e9,x1⟩:=HX.out.2 I (p:Int) (Qdo hpR);cases e9;obtain ⟨T,hT⟩:=Zx (Qai N p q);have HTQ:=Zh (fun V (hV:Below wr.heap.size wr V)=>hT▸HTU.out V (Zb HBW.out hV) p q x y hx HY.out);have HX1:=Zh (show ∀ V,Below wr.heap.size wr V→V.cell? ⟨xb,xo+I,none⟩=some (.int .i64 (p:Int)) from fun V hV=>Zc (Zb HBW.out hV) (Zn _) x1);(have j5:((I+1:Nat):Int)-1=(I:Int):=by omega);(have j6:decide (0<I+1)=true:=by simp);(have j6b:0<I+1:=by omega);(have j7:(I:Int)<nx:=by omega);(have j8:0≤(I:Int):=by omega);(have wl:IntKind.i64.wrap (I:Int)=(I:Int):=IntWalk.i64_in _ (by omega);obtain ⟨J,hJ⟩:=Zx (I+1);rw [←hJ] at j1 j2 j5 j6 j6b HSX hq hi hlt ⊢;have HJJ:=Zh hJ;have j9:0<(J:Int):=by omega);have HSX0:=HSX;clear HSX;have HSX:=Zh (fun V hV=>And.intro (HSX0.out V hV) (HX1.out V hV));clear hJ x1 hx hpR;by_cases hl:I<l'.length
    · (have hq':l'[I]?=some q:=by rw [HJJ.out,List.getElem?_cons_succ,Yc hl] at hq;exact hq);obtain ⟨y',hy',⟨ht1,ht2,ht3⟩,⟨hw1,hw2,hw3⟩,⟨hm1,hm2⟩,hc0,hc9,hrn⟩:=HPR.out I p q S hp hq' hrc;rw [HY.out] at hy';cases hy';have HRN:=Zh (hT▸hrn);rw [←hT] at ht1 ht2 ht3 hc9;obtain ⟨u1,u2,eu1,eu2,_,_⟩:=Qda HOK.out HY.out;obtain ⟨wy,hwy⟩:∃ W,W=y.2.2:=⟨_,rfl⟩;have HY2:=Zh (show y.1=(u1:Int)∧y.2.1=(u2:Int)∧y.2.2=wy from ⟨eu1,eu2,hwy.symm⟩);rw [eu1,Yl] at hm1;rw [eu2,Yl] at hm2;rw [←hwy] at hw1 hw2 hw3 hc9 HRN
      have hmk:∀ u,(Qbv l cc).getD u false=true→∀ V,Below w3.heap.size w3 V→V.cell? ⟨mb,u,none⟩=some (.bool true):=fun u hu V hV=>by
       rw [(HMB.out.below hV HMB.out.lt).cell,Qka];rw [Ya] at hu
       cases hh:(Qbv l cc)[u]? with
       | none=>rw [hh] at hu;cases hu
       | some z=>rw [hh] at hu;cases hu;rfl
      have hun:u1<n∧u2<n:=by{obtain ⟨v1,v2,g1,g2,g3,g4⟩:=Qda HOK.out HY.out;rw [HH.out.1.1] at g3 g4;exact ⟨by omega,by omega⟩};have HMM:=Zh (And.intro (hmk u1 hm1) (hmk u2 hm2))
      have HSX:=Zh (show ∀ V,Below wr.heap.size wr V→V.cell? ⟨w.heap.size,0,none⟩=some (.slice A n c)∧V.cell? ⟨w.heap.size,1,none⟩=some (.slice (some ⟨ab,ao,none⟩) m d)∧V.cell? ⟨w.heap.size,2,none⟩=some (.slice C k e)∧V.cell? ⟨xb,xo+J,none⟩=some (.int .i64 (q:Int))∧V.cell? ⟨ab,ao+q*3,none⟩=some (.int .i64 (u1:Int))∧V.cell? ⟨ab,ao+q*3+1,none⟩=some (.int .i64 (u2:Int))∧V.cell? ⟨ab,ao+q*3+2,none⟩=some (.int .i64 wy)∧V.cell? ⟨xb,xo+I,none⟩=some (.int .i64 (p:Int)) from fun V hV=>by
       obtain ⟨h1,h2,h3,h4,h5,h6,h7⟩:=HSX0.out V hV;rw [HY2.out.1] at h5;rw [HY2.out.2.1] at h6;rw [HY2.out.2.2] at h7;exact ⟨h1,h2,h3,h4,h5,h6,h7,HX1.out V hV⟩)
      have HCB:=Zh (show c9≤70375186628608∧0≤e9 from by
       have:=HPOS.out;omega)
      (have hcb:=HCB.out;have a1:Qcl S T=S+T:=by unfold Qcl;rw [if_neg (by omega)]);(have a2:Qcl (S+T) wy=S+T+wy:=by unfold Qcl;rw [if_neg (by omega)]);(have HA1:=Zh (fun V=>a1▸Qfn S T V ⟨by omega,by omega⟩ ⟨by omega,by omega⟩);have HA2:=Zh (fun V=>a2▸Qfn (S+T) wy V ⟨by omega,by omega⟩ ⟨by omega,by omega⟩);have t1:(T == 1152921504606846976)=false:=by simpa using ht1);(have t2:decide (T=1152921504606846976)=false:=by simpa using ht1);(have t3:(wy == 1152921504606846976)=false:=by simpa using hw1);(have t4:decide (wy=1152921504606846976)=false:=by simpa using hw1);(have k1:(J:Int)<nx-1:=by have:=HNX.out;have:=HJJ.out;omega);(have k2:IntKind.i64.wrap ((nx:Int)-1)=(nx:Int)-1:=IntWalk.i64_in _ (by omega);obtain ⟨hu1,hu2⟩:=hun;have k3:(u1:Int)<n:=by omega);(have k4:(u2:Int)<n:=by omega);have HJL:=Zh (show J≤l'.length from by have:=HJJ.out;omega);have HPJ:=Zh (show (a::l')[J]?=some q from by rw [HJJ.out,List.getElem?_cons_succ];exact hq');have HRJ:=Zh (show Qed (StA N (Qbv l cc)) a q (S+T+wy) (l'.take J) from by rw [HJJ.out];exact HRN.out);clear hT hq hp hrc HI hl a1 a2 ht1 hw1 hc9 hwy eu1 eu2 hm1 hm2 hmk hcb hrn hq' hu1 hu2;(go_wp2_with fail);(refine wp_region_held_drew (S:=fun V=>Below wr.heap.size wr V) (by kernel_rfl) (Zr _ _).drew (fun _=>?_);refine tzd 0 56 ?_;refine tz 4 60 ?_;refine Zk 5 (fun K hK=>?_);go_simp;with_reducible refine (Qcy A (some ⟨ab,ao,none⟩) C n m k c d e q _ (by omega) (by omega)).mono ?_);rintro r w6 ⟨rfl,hb6⟩;have hb6':Below wr.heap.size wr w6:=(Zr _ _).drew.trans hb6;go_simp;refine hK.out _ _ hb6' (fun _=>?_);clear hK K;refine tz 6 62 ?_;refine Zd ?_;have HB6:=Zh (Zb HBL.out hb6');(go_wp2_with fail);(refine wp_region_held_drew (S:=fun V=>Below wr.heap.size wr V) (by kernel_rfl) hb6'.drew (fun _=>?_);refine tzd 0 65 ?_;refine tzd 4 69 ?_;refine tzb 8 73 ?_;refine Zk 10 (fun K hK=>?_);go_simp;with_reducible refine (HTQ.out _ hb6'.drew).mono ?_);rintro r w7 ⟨rfl,hb7⟩;have hb7':Below wr.heap.size wr w7:=Zb hb6'.drew hb7;go_simp;refine hK.out _ _ hb7' (fun _=>?_);clear hK K;refine tz 11 18 ?_;refine Zd ?_;have HB7:=Zh (Zb HBL.out hb7');have HB67:=Zh hb7';clear hb7 hb7';(go_wp2_with fail);(with_reducible refine (HA1.out _).mono ?_);rintro r w8 ⟨rfl,rfl⟩;(go_wp2_with fail);(refine wp_region_held_drew (S:=fun V=>Below wr.heap.size wr V) (by kernel_rfl) HB67.out.drew (fun _=>?_);refine tzd 0 90 ?_;refine tzd 4 94 ?_;obtain ⟨v0,hv0⟩:∃ X,X=w7.drew:=⟨_,rfl⟩;have hb0:Below wr.heap.size wr v0:=by rw [hv0];exact HB67.out.drew);(rw [←hv0];clear hv0;have hba:Below wr.heap.size wr (v0.alloc (.cells #[.int .i64 0,.int .i64 0,.int .i64 0] 119)):=Zb hb0 Qah;refine Zk 8 (fun K hK=>?_);go_simp;refine hK.out _ _ hba (fun _=>?_);clear hK K;obtain ⟨v1,hv1⟩:∃ X,X=v0.alloc (.cells #[.int .i64 0,.int .i64 0,.int .i64 0] 119):=⟨_,rfl⟩;have hA1:Blk v1 v0.heap.size 119 #[.int .i64 0,.int .i64 0,.int .i64 0]:=by rw [hv1];exact Blk.new _ _ _);(rw [←hv1] at hba ⊢;clear hv1;obtain ⟨gy,hgy⟩:∃ X,X=v0.heap.size:=⟨_,rfl⟩;rw [←hgy] at hA1 ⊢;have hgw:wr.heap.size≤gy:=by rw [hgy];exact hb0.size);clear hgy hb0;obtain ⟨d0,d1,d2⟩:=hA1.three;have f0:=hA1.frozen 0;have f1:=hA1.frozen 1;have f2:=hA1.frozen 2;have hb9:Below wr.heap.size wr (((v1.setCell ⟨gy,0,none⟩ (.int .i64 (u1:Int))).setCell ⟨gy,1,none⟩ (.int .i64 (u2:Int))).setCell ⟨gy,2,none⟩ (.int .i64 wy)):=((hba.setCell (by exact hgw) _).setCell (by exact hgw) _).setCell (by exact hgw) _;refine Zk 9 (fun K hK=>?_);go_simp;refine hK.out _ _ hb9 (fun _=>?_);clear hK K;refine Zd ?_;obtain ⟨v2,hv2⟩:∃ X,X=((v1.setCell ⟨gy,0,none⟩ (.int .i64 (u1:Int))).setCell ⟨gy,1,none⟩ (.int .i64 (u2:Int))).setCell ⟨gy,2,none⟩ (.int .i64 wy):=⟨_,rfl⟩;have hA2:Blk v2 gy 119 #[.int .i64 (u1:Int),.int .i64 (u2:Int),.int .i64 wy]:=by{have:=((hA1.set_ 0 (.int .i64 (u1:Int))).set_ 1 (.int .i64 (u2:Int))).set_ 2 (.int .i64 wy);rw [←hv2] at this;simpa using this};rw [←hv2] at hb9 ⊢;have HB9:=Zh (Zb HBL.out hb9);clear d0 d1 d2 f0 f1 f2 hba hA1 hv2 hb9 HSX HSX0 HX1 hb6 hb6';obtain ⟨d0,d1,d2⟩:=hA2.three;have m1:=HMM.out.1 v2 HB9.out;have m2:=HMM.out.2 v2 HB9.out;(go_wp2_with fail);(with_reducible refine (HA2.out _).mono ?_);rintro r w9 ⟨rfl,rfl⟩;clear d0 d1 d2 m1 m2;(go_wp2_with fail);go_roundw;(case rel=>exact ⟨J+1,S+T+wy,by omega,by go_num,rfl,Zh (.inr (.inl ⟨J,q,rfl,HJL.out,HPJ.out,HRJ.out⟩)),HB9.out⟩);case measure=>simp [intOf];omega
    {(have hIl:I=l'.length:=by omega);have hqb:q=b:=by{rw [HJJ.out,List.getElem?_cons_succ,hIl,Yb (Zn _),Yy] at hq;simpa using hq.symm};(obtain ⟨⟨ht1,ht2,ht3⟩,hc0,hc9⟩:=HLAST.out p S (by rw [hIl,List.take_length] at hrc;exact hrc);rw [←hqb,←hT] at ht1 ht2 ht3 hc9;have HC9:=Zh hc9;have hcv:S+T≤70375186628608:=by omega);(have a1:Qcl S T=S+T:=by unfold Qcl;rw [if_neg (by omega)]);(have HA1:=Zh (fun V=>a1▸Qfn S T V ⟨by omega,by omega⟩ ⟨by omega,by omega⟩);have t1:(T == 1152921504606846976)=false:=by simpa using ht1);(have t2:decide (T=1152921504606846976)=false:=by simpa using ht1);have HEN:=Zh (show J+1=nx by have:=HNX.out;have:=HJJ.out;omega);(have k1:¬((J:Int)<nx-1):=by have:=HEN.out;omega);have k2:IntKind.i64.wrap ((nx:Int)-1)=(nx:Int)-1:=IntWalk.i64_in _ (by omega);clear hT hq hp hrc HI hqb hIl hl a1 hcv ht1 hc9;(go_wp2_with fail);(refine wp_region_held_drew (S:=fun V=>Below wr.heap.size wr V) (by kernel_rfl) (Zr _ _).drew (fun _=>?_);refine tzd 0 56 ?_;refine tz 4 60 ?_;refine Zk 5 (fun K hK=>?_);go_simp;with_reducible refine (Qcy A (some ⟨ab,ao,none⟩) C n m k c d e q _ (by omega) (by omega)).mono ?_);rintro r w6 ⟨rfl,hb6⟩;have hb6':Below wr.heap.size wr w6:=(Zr _ _).drew.trans hb6;go_simp;refine hK.out _ _ hb6' (fun _=>?_);clear hK K;refine tz 6 62 ?_;refine Zd ?_;have HB6:=Zh (Zb HBL.out hb6');(go_wp2_with fail);(refine wp_region_held_drew (S:=fun V=>Below wr.heap.size wr V) (by kernel_rfl) hb6'.drew (fun _=>?_);refine tzd 0 65 ?_;refine tzd 4 69 ?_;refine tzb 8 73 ?_;refine Zk 10 (fun K hK=>?_);go_simp;with_reducible refine (HTQ.out _ hb6'.drew).mono ?_);rintro r w7 ⟨rfl,hb7⟩;have hb7':Below wr.heap.size wr w7:=Zb hb6'.drew hb7;go_simp;refine hK.out _ _ hb7' (fun _=>?_);clear hK K;refine tz 11 18 ?_;refine Zd ?_;have HB7:=Zh (Zb HBL.out hb7');have HB67:=Zh hb7';clear hb7 hb7';(go_wp2_with fail);(with_reducible refine (HA1.out _).mono ?_);rintro r w8 ⟨rfl,rfl⟩;clear HSX HX1 hb6 hb6';(go_wp2_with fail);go_roundw;(case rel=>exact ⟨J+1,_,by omega,by go_num,rfl,Zh (.inr (.inr ⟨HEN.out,HC9.out⟩)),HB7.out⟩);case measure=>simp [intOf];omega}
  {omega}
end
theorem RdW.keepB {w w':World}{A:Option Addr}{n:Nat} {l:List (ByteArray×Int)} (h:RdW w A n l) (hk:∀ b,Qab A=some b→w'.heap[b]?=w.heap[b]?):RdW w' A n l :=
 ⟨h.1,fun i x hx=>by
  obtain ⟨b,o,e,h1,h2⟩:=h.2 i x hx;have hb:=hk b (by rw [e];rfl);exact ⟨b,o,e,Qds hb h1,Qds hb h2⟩⟩
theorem RdW.setFar {W:World}{A:Option Addr}{n:Nat} {l:List (ByteArray×Int)} (h:RdW W A n l) (g i:Nat) (v:Value) (hne:∀ b,Qab A=some b→b≠g∧b<W.heap.size):RdW (W.setCell ⟨g,i,none⟩ v) A n l :=
 h.keepB (fun b e=>(Qaz.set W g i v (G:=fun b=>b≠g) (fun h=>h rfl)) b (hne b e).1 (hne b e).2)
theorem Qkv (s:ByteArray)(k c:Int)(w:World):Calls prog 27 #[.string s,.int .i64 k,.int .i64 c] w fun e w'=>∃ A n m,e=.returned (.agg #[.slice A n m,.int .i64 c])∧RdW w' A n [(s,k)]∧(∀ b,Qab A=some b→w.heap.size≤b∧b<w'.heap.size)∧n≤1000000∧Below w.heap.size w w':=by
 go_enter func27,ntmps27
 go_wp2;refine bodyPost_ret (v:=.agg #[.slice (some ⟨w.heap.size+1,0,none⟩) 1 1,.int .i64 c]) (by simp [results,results27,go_sem]) rfl ?_;refine ⟨_,1,1,rfl,⟨rfl,fun i x hx=>?_⟩,fun b e=>?_,by omega,Qah⟩
 · match i,hx with
   | 0,hx=>cases hx;exact ⟨_,_,rfl,by simp,by simp⟩
   | i+1,hx=>simp at hx
 {have e:w.heap.size+1=b:=Yv e;subst e;exact ⟨by omega,by simp⟩}
structure OvD (w:World) (Q G AE:Option Addr) (L S:Nat) (N:Qam) (ls:List (List Int)) (EL:List Ent):Prop where
 q:RdT w Q L ls
 g:RdG w G L (Qae N.ar ls)
 e:Rds w 4 AE S (Qep EL)
 len:EL.length=S
 sum:S=Qbw (Qae N.ar ls)
 ent:EntP N ls EL
 s9:S≤1000000000
theorem OvD.below {w w':World}{Q G AE:Option Addr}{L S:Nat}{N:Qam} {ls:List (List Int)} {EL:List Ent} (h:OvD w Q G AE L S N ls EL) (hb:Below w.heap.size w w'):OvD w' Q G AE L S N ls EL :=
 ⟨h.q.below hb,h.g.le (Le.below hb),h.e.below hb,h.len,h.sum,h.ent,h.s9⟩
section
variable (A B C Q G AE:Option Addr) (n m k c d e L cq cg S ce:Nat) (xA xB xC:Value) (N:Qam) (ls:List (List Int)) (EL:List Ent)
set_option maxHeartbeats 1000000 in
theorem refEntry_no (lv f t:Int)(w:World)(h:Qbz w A B C n m k N)(hok:Qap N)(hP:Qat N.vs.length ls)(hO:OvD w Q G AE L S N ls EL)(hn:enF N ls lv f<0∨leF N ls lv t≠enF N ls lv f) :
 Calls prog 25 #[.agg #[.slice A n c,.slice B m d,.slice C k e],.agg #[xA,xB,xC,.slice Q L cq,.slice G L cg,.slice AE S ce],.int .i64 lv,.int .i64 f,.int .i64 t] w fun r w'=>r=.returned (.int .i64 (-1))∧Below w.heap.size w w':=by
 have HEN:=Zh (fun V (hV:Below w.heap.size w V)=>Qeb A B C Q n m k c d e L cq N ls lv f V (h.below hV) hok (hO.q.below hV) hP);have HLE:=Zh (fun V (hV:Below w.heap.size w V)=>Qga A B C Q n m k c d e L cq N ls lv t V (h.below hV) hok (hO.q.below hV) hP);clear h hok hP hO;go_enter func25,ntmps25
 go_wp2_with fail
 (refine Qac ?_;intro w1 hw1);have HB1:=Zh (show Below w.heap.size w w1 by rw [hw1];exact Qah);have hX:Blk w1 w.heap.size 26 #[.slice A n c,.slice B m d,.slice C k e]:=by rw [hw1];exact Qbi
 have hY:Blk w1 (w.heap.size+1) 57 #[xA,xB,xC,.slice Q L cq,.slice G L cg,.slice AE S ce]:=by rw [hw1];exact Qbi
 clear hw1;with_reducible refine (HEN.out w1 HB1.out).mono ?_
 rintro r w2 ⟨rfl,hb2⟩;have hX2:=hX.below hb2 hX.lt;have hY2:=hY.below hb2 hY.lt;have HB2:=Zh (Zb HB1.out hb2);clear hb2 hX hY HEN;obtain ⟨x0,x1,x2⟩:=hX2.three;have y0:w2.cell? ⟨w.heap.size+1,3,none⟩=some (.slice Q L cq):=Zq hY2;obtain ⟨ev,hev⟩:=Zx (enF N ls lv f);rw [←hev] at hn ⊢;by_cases h0:ev<0
 {clear hn hev HLE x0 x1 x2 y0 hX2 hY2;(go_wp2_with fail);go_ret;exact ⟨rfl,HB2.out⟩};{have h1:leF N ls lv t≠ev:=hn.resolve_left h0;clear hn hev;(go_wp2_with fail);(with_reducible refine (HLE.out w2 HB2.out).mono ?_);(rintro r w3 ⟨rfl,hb3⟩;have HB3:=Zh (Zb HB2.out hb3);clear hb3 HLE x0 x1 x2 y0 hX2 hY2;obtain ⟨lw,hlw⟩:=Zx (leF N ls lv t);rw [←hlw] at h1 ⊢;clear hlw;have h2:(lw != ev)=true:=by simpa using h1);(go_wp2_with fail);go_ret;exact ⟨rfl,HB3.out⟩}
set_option maxHeartbeats 2000000 in
theorem Qkx (j a b cc p q kk:Nat)(l:List Int)(x:Qan)(w:World)(h:Qbz w A B C n m k N)(hok:Qap N)(hP:Qat N.vs.length ls)(hO:OvD w Q G AE L S N ls EL) (hl:ls[j]?=some l) (hx:(Qaf N.ar l)[cc]?=some x) (he:enF N ls ((j:Int)+1) (a:Int)=(cc:Int)) (hf:leF N ls ((j:Int)+1) (b:Int)=(cc:Int))
 (hp:plI x.1 (a:Int)=(p:Int)) (hq:plI x.2 (b:Int)=(q:Int)) (hk:EL[kk]?=some (j,cc,p,q)) (hu:∀ i f,i<kk→EL[i]?=some f→f≠(j,cc,p,q)) :
 Calls prog 25 #[.agg #[.slice A n c,.slice B m d,.slice C k e],.agg #[xA,xB,xC,.slice Q L cq,.slice G L cg,.slice AE S ce],.int .i64 ((j:Int)+1),.int .i64 a,.int .i64 b] w fun r w'=>r=.returned (.int .i64 kk)∧Below w.heap.size w w':=by
 have hL6:L≤6:=by rw [←hO.q.1];exact hP.l6
 have hgl:=Qbl hx;have hla:=hok.la;have hcc:cc≤1000000:=by{have h1:=(Zs hx).1;rw [Qaq] at h1;have:=Qcg (l:=l) (n:=(N.vs.length:Int)) (fun x hx=>(hP.lvl l (Zm hl)).hi x hx) (by omega);have:=hok.lv;omega};have HEN:=Zh (fun V (hV:Below w.heap.size w V)=>he▸Qeb A B C Q n m k c d e L cq N ls ((j:Int)+1) a V (h.below hV) hok (hO.q.below hV) hP);have HLE:=Zh (fun V (hV:Below w.heap.size w V)=>hf▸Qga A B C Q n m k c d e L cq N ls ((j:Int)+1) b V (h.below hV) hok (hO.q.below hV) hP);have HGA:=Zh (fun V (hV:Below w.heap.size w V)=>Qja xA xB xC (.slice Q L cq) (.slice AE S ce) G L cg j cc N.ar ls l x V (hO.g.le (Le.below hV)) hl hx (by omega) hcc);have HAT:=Zh (fun V (hV:Below w.heap.size w V)=>Qvj xA xB xC (.slice Q L cq) (.slice G L cg) AE S ce kk j cc p q EL V (hO.e.below hV) hO.len hO.s9 hk hu);have HPI:=Zh (fun (A1:Option Addr) (n1 c1:Nat) V (hV:RdI V A1 n1 x.1)=>hp▸Qer A1 n1 c1 x.1 (a:Int) V hV (by rw [←hV.1];omega));have HPO:=Zh (fun (A1:Option Addr) (n1 c1:Nat) V (hV:RdI V A1 n1 x.2)=>hq▸Qer A1 n1 c1 x.2 (b:Int) V hV (by rw [←hV.1];omega));clear h hok hP hO hl hx he hf hp hq hk hu hgl hla hcc;go_enter func25,ntmps25
 go_wp2_with fail
 (refine Qac ?_;intro w1 hw1);have HB1:=Zh (show Below w.heap.size w w1 by rw [hw1];exact Qah);have hX:Blk w1 w.heap.size 26 #[.slice A n c,.slice B m d,.slice C k e]:=by rw [hw1];exact Qbi
 have hY:Blk w1 (w.heap.size+1) 57 #[xA,xB,xC,.slice Q L cq,.slice G L cg,.slice AE S ce]:=by rw [hw1];exact Qbi
 clear hw1;with_reducible refine (HEN.out w1 HB1.out).mono ?_
 rintro r w2 ⟨rfl,hb2⟩;have hX2:=hX.below hb2 hX.lt;have hY2:=hY.below hb2 hY.lt;have HB2:=Zh (Zb HB1.out hb2);clear hb2 hX hY HEN;obtain ⟨x0,x1,x2⟩:=hX2.three;have y0:w2.cell? ⟨w.heap.size+1,3,none⟩=some (.slice Q L cq):=Zq hY2;have i0:¬((cc:Int)<0):=by omega
 have i1:((cc:Int) != (cc:Int))=false:=by simp
 go_wp2_with fail
 with_reducible refine (HLE.out w2 HB2.out).mono ?_
 rintro r w3 ⟨rfl,hb3⟩;have hY3:=hY2.below hb3 hY2.lt;have HB3:=Zh (Zb HB2.out hb3);clear hb3 HLE x0 x1 x2 y0 hX2 hY2;have y0:w3.cell? ⟨w.heap.size+1,0,none⟩=some xA:=Zq hY3;have y1:w3.cell? ⟨w.heap.size+1,1,none⟩=some xB:=Zq hY3;have y2:w3.cell? ⟨w.heap.size+1,2,none⟩=some xC:=Zq hY3;have y3:w3.cell? ⟨w.heap.size+1,3,none⟩=some (.slice Q L cq):=Zq hY3;have y4:w3.cell? ⟨w.heap.size+1,4,none⟩=some (.slice G L cg):=Zq hY3;have y5:w3.cell? ⟨w.heap.size+1,5,none⟩=some (.slice AE S ce):=Zq hY3;go_wp2_with fail
 with_reducible refine (HGA.out w3 HB3.out).mono ?_
 rintro r w4 ⟨A1,n1,c1,A2,n2,c2,rfl,h41,h42,hb4⟩;have hY4:=hY3.below hb4 hY3.lt;have HB4:=Zh (Zb HB3.out hb4);clear hb4 HGA y0 y1 y2 y3 y4 y5 hY3;go_wp2_with fail
 (refine Qaj ?_;intro w5 hw5);have hb5:Below w4.heap.size w4 w5:=by rw [hw5];exact Qah
 have hZ:Blk w5 w4.heap.size 73 #[.slice A1 n1 c1,.slice A2 n2 c2]:=by rw [hw5];refine Blk.new' _ _ _ ?_;rfl
 clear hw5;have hY5:=hY4.below hb5 hY4.lt;have HB5:=Zh (Zb HB4.out hb5);have HI5:=Zh (h41.below hb5);have HJ5:=Zh (h42.below hb5)
 have HSX:=Zh (show ∀ V,Below w5.heap.size w5 V→V.cell? ⟨w.heap.size+1,0,none⟩=some xA∧V.cell? ⟨w.heap.size+1,1,none⟩=some xB∧V.cell? ⟨w.heap.size+1,2,none⟩=some xC∧V.cell? ⟨w.heap.size+1,3,none⟩=some (.slice Q L cq)∧V.cell? ⟨w.heap.size+1,4,none⟩=some (.slice G L cg)∧V.cell? ⟨w.heap.size+1,5,none⟩=some (.slice AE S ce)∧V.cell? ⟨w4.heap.size,0,none⟩=some (.slice A1 n1 c1)∧V.cell? ⟨w4.heap.size,1,none⟩=some (.slice A2 n2 c2) from fun V hV=>by
  have hO':=hY5.below hV hY5.lt;have hZ':=hZ.below hV hZ.lt;exact ⟨Zq hO',Zq hO',Zq hO',Zq hO',Zq hO',Zq hO',Zq hZ',Zq hZ'⟩)
 clear hb5 h41 h42 hZ hY4 hY5;go_wp2_with fail
 refine wp_region_held_drew (S:=fun V=>Below w5.heap.size w5 V) (by kernel_rfl) (Zr _ _).drew (fun _=>?_);refine tzd 0 35 ?_;refine tzb 4 39 ?_;refine tzb 7 42 ?_;refine tz 9 44 ?_;refine Zk 6 (fun K hK=>?_);go_simp;with_reducible refine (HPI.out A1 n1 c1 _ (HI5.out.below (Zr _ _).drew)).mono ?_
 rintro r w' ⟨rfl,rfl⟩;go_simp;refine hK.out _ _ (Zr _ _).drew (fun _=>?_);clear hK K;refine Zk 10 (fun K hK=>?_);go_simp;with_reducible refine (HPO.out A2 n2 c2 _ (HJ5.out.below (Zr _ _).drew)).mono ?_
 rintro r w' ⟨rfl,rfl⟩;go_simp;refine hK.out _ _ (Zr _ _).drew (fun _=>?_);clear hK K;refine Zk 11 (fun K hK=>?_);go_simp;with_reducible refine (HAT.out _ (Zb HB5.out (Zr _ _).drew)).mono ?_
 rintro r w6 ⟨rfl,hb6⟩;have hb6':Below w5.heap.size w5 w6:=(Zr _ _).drew.trans hb6;go_simp;refine hK.out _ _ hb6' (fun _=>?_);clear hK K;refine tz 12 10 ?_;refine Zd ?_;go_wp2_with fail
 go_ret;exact ⟨rfl,Zb HB5.out hb6'⟩
variable (CA:Option Addr) (NC cC:Nat) (cl:List Int)
end
end Go.Proofs.YtdheeddnkdhfeaaGreatDoor
namespace Go.Proofs.YtdheeddnkdhfeaaGreatDoor
open Go.RowKit Go.Proofs.Tryz
attribute [local go_sem ↓] Go.wp_at_zero Go.wp_at_succ
def Qwb (N:Qam) (ls:List (List Int)) (NC S:Nat) (lv f t:Int):Prop :=
 ∃ (a b j c:Nat) (l:List Int) (v:Int),NC=S∧f=(a:Int)∧t=(b:Int)∧lv=(j:Int)+1∧ls[j]?=some l∧Qgz N l c a b v
def LpInf (N:Qam) (ls:List (List Int)) (lv f t:Int):Prop :=
 ∃ (a b j:Nat) (l:List Int) (y z:Tri),f=(a:Int)∧t=(b:Int)∧lv=(j:Int)+1∧ls[j]?=some l∧N.ar[a]?=some y∧N.ar[b]?=some z∧Qaa l y.1≠Qaa l y.2.1∧Qaa l z.1=Qaa l y.2.1∧Qaa l z.2.1≠Qaa l y.2.1∧Qet N (Qbv l (Qaa l y.2.1)) a b 1152921504606846976
open Classical in
noncomputable def lpw (N:Qam) (ls:List (List Int)) (NC S:Nat) (lv f t:Int):Option (Int×Int) :=
 if lv<1∨(ls.length:Int)<lv then some (0,1) else if NC≠S then some (1,1) else if enF N ls lv f<0 then some (2,5) else if leF N ls lv t≠enF N ls lv f then some (3,5) else if LpInf N ls lv f t then some (4,12) else none
section
variable {N:Qam} {ls:List (List Int)} {NC S:Nat} {lv f t k c:Int}
theorem Qxb {j a b:Nat}{l:List Int}{y z:Tri} (hl:ls[j]?=some l) (hy:N.ar[a]?=some y) (hz:N.ar[b]?=some z) (h1:Qaa l y.1≠Qaa l y.2.1) (h2:Qaa l z.1=Qaa l y.2.1) (h3:Qaa l z.2.1≠Qaa l y.2.1) :
 ¬((j:Int)+1<1∨(ls.length:Int)<(j:Int)+1)∧enF N ls ((j:Int)+1) (a:Int)=Qaa l y.2.1∧leF N ls ((j:Int)+1) (b:Int)=Qaa l y.2.1:=by have hj:=(Zs hl).1;refine ⟨by omega,?_,?_⟩;{unfold enF;rw [Qee hl hy,if_neg h1]};{unfold leF;rw [Qee hl hz,if_neg (fun e=>h3 (by rw [←e,h2]))];exact h2}
theorem bad_w (hok:Qap N)(hP:Qat N.vs.length ls)(h:Qez N ls NC S lv f t k c):lpw N ls NC S lv f t=some (k,c):=by
 unfold lpw;rcases h with ⟨h1,rfl,rfl⟩|⟨h1,h2,rfl,rfl⟩|⟨h1,h2,h3,rfl,rfl⟩|⟨h1,h2,h3,h4,rfl,rfl⟩|⟨h2,hi,rfl,rfl⟩
 {rw [if_pos h1]};{rw [if_neg (by omega),if_pos h2]};{rw [if_neg (by omega),if_neg (fun e=>e h2),if_pos h3]};{rw [if_neg (by omega),if_neg (fun e=>e h2),if_neg (by omega),if_pos h4]};{have hi':LpInf N ls lv f t:=hi;obtain ⟨a,b,j,l,y,z,rfl,rfl,rfl,hl,hy,hz,h1,h3,h4,_⟩:=hi;obtain ⟨g1,g2,g3⟩:=Qxb hl hy hz h1 h3 h4;obtain ⟨cc,_,_,_,_,hc,_⟩:=Qhy hok hP hl hy hz h1 h3 h4;rw [if_neg g1,if_neg (fun e=>e h2),if_neg (by rw [g2,hc];omega),if_neg (fun e=>e (by rw [g3,g2])),if_pos hi']}
theorem good_w (h:Qwb N ls NC S lv f t):lpw N ls NC S lv f t=none:=by
 obtain ⟨a,b,j,c,l,v,h1,rfl,rfl,rfl,hl,hp⟩:=h;obtain ⟨y,hy,y1,y2⟩:=hp.sy;obtain ⟨z,hz,z1,z2⟩:=hp.tz;obtain ⟨g1,g2,g3⟩:=Qxb hl hy hz (by rw [y2];exact y1) (by rw [z1,y2]) (by rw [y2];exact z2);unfold lpw;rw [if_neg g1,if_neg (fun e=>e h1),if_neg (by rw [g2,y2];omega),if_neg (fun e=>e (by rw [g3,g2])),if_neg];rintro ⟨a',b',j',l',y',z',e1,e2,e3,hl',hy',_,_,_,_,hE⟩;obtain rfl:a=a':=by omega
 obtain rfl:b=b':=by omega
 obtain rfl:j=j':=by omega
 rw [hl] at hl';cases hl';rw [hy] at hy';cases hy';rw [y2] at hE;exact hp.fin (Lst.uniq hp.ent hE)
end
theorem Qez.in_ {N:Qam} {ls:List (List Int)} {NC S:Nat} {lv f t k c:Int} (h:Qez N ls NC S lv f t k c):k=0∧c=1∨k=1∧c=1∨k=2∧c=5∨k=3∧c=5∨k=4∧c=12:=by rcases h with ⟨_,h1,h2⟩|⟨_,_,h1,h2⟩|⟨_,_,_,h1,h2⟩|⟨_,_,_,_,h1,h2⟩|⟨_,_,h1,h2⟩ <;> omega
def ClR (w:World)(N:Qam) (ls:List (List Int)) (NC S:Nat) (lv f t:Int) (e:Ending) (w':World):Prop :=
 ((∃ (k c:Int) (A:Option Addr) (n m:Nat),Qez N ls NC S lv f t k c∧e=.returned (.agg #[.slice A n m,.int .i64 c])∧RdW w' A n [((⟨#[108,101,97,112]⟩:ByteArray),k)]∧n≤1000000) ∨
 (Qwb N ls NC S lv f t∧e=.returned (.agg #[.slice none 0 0,.int .i64 0])))∧Below w.heap.size w w'
section
variable (A B C Q G AE:Option Addr) (n m k c d e L cq cg S ce:Nat) (xA xB xC:Value) (N:Qam) (ls:List (List Int)) (EL:List Ent) (CA:Option Addr) (NC cC:Nat) (cl:List Int)
set_option maxHeartbeats 4000000 in
theorem Qgo (lv f t:Int)(w:World)(h:Qbz w A B C n m k N)(hok:Qap N)(hP:Qat N.vs.length ls)(hO:OvD w Q G AE L S N ls EL)(hc:NC=S→RdI w CA NC cl∧Qct N ls cl) :
 Calls prog 22 #[.agg #[.slice A n c,.slice B m d,.slice C k e],.agg #[xA,xB,xC,.slice Q L cq,.slice G L cg,.slice AE S ce],.slice CA NC cC,.int .i64 lv,.int .i64 f,.int .i64 t] w (ClR w N ls NC S lv f t):=by
 have hLL:L=ls.length:=hO.q.1.symm;have HEN:=Zh (fun V (hV:Below w.heap.size w V)=>Qeb A B C Q n m k c d e L cq N ls lv f V (h.below hV) hok (hO.q.below hV) hP);have HLE:=Zh (fun V (hV:Below w.heap.size w V)=>Qga A B C Q n m k c d e L cq N ls lv t V (h.below hV) hok (hO.q.below hV) hP);unfold ClR;by_cases hlv:1≤lv∧lv≤(L:Int);rotate_left;{have HHS:=Zh (fun V=>Qky Q L cq lv V hlv);have HBAD:=Zh (show Qez N ls NC S lv f t 0 1 from .inl ⟨by omega,rfl,rfl⟩);clear hlv hLL h hok hP hO hc HEN HLE;(go_enter func22,ntmps22);(go_wp2_with fail);(refine Qac ?_;intro w1 hw1);(have hb:Below w.heap.size w w1:=by rw [hw1];exact Qah);(have hN:Blk w1 w.heap.size 26 #[.slice A n c,.slice B m d,.slice C k e]:=by rw [hw1];exact Qbi);(have hO:Blk w1 (w.heap.size+1) 57 #[xA,xB,xC,.slice Q L cq,.slice G L cg,.slice AE S ce]:=by rw [hw1];exact Qbi);(have hR:Blk w1 (w.heap.size+2) 66 #[.slice none 0 0,.int .i64 0]:=by rw [hw1];exact Qbi);(clear hw1;with_reducible refine (HHS.out w1).mono ?_);rintro r w2 ⟨rfl,hb2⟩;have hN:=hN.below hb2 hN.lt;have hO:=hO.below hb2 hO.lt;have hR:=hR.below hb2 hR.lt;have hb:=Zb hb hb2;clear hb2 HHS;(go_wp2_with fail);(with_reducible refine (Qkv _ _ _ _).mono ?_);exact Kal};have hin:1≤lv∧lv≤(ls.length:Int):=by omega
 obtain ⟨j,rfl⟩:∃ j:Nat,lv=(j:Int)+1:=⟨(lv-1).toNat,by omega⟩;have HHS:=Zh (fun V=>Qfo Q L cq j V (by omega));by_cases hns:NC=S;rotate_left;{have HBAD:=Zh (show Qez N ls NC S ((j:Int)+1) f t 1 1 from .inr (.inl ⟨hin,hns,rfl,rfl⟩));(have i6:¬(NC:Int)=S:=by omega);clear hlv hLL h hok hP hO hc HEN HLE hin hns;(go_enter func22,ntmps22);(go_wp2_with fail);(refine Qac ?_;intro w1 hw1);(have hb:Below w.heap.size w w1:=by rw [hw1];exact Qah);(have hN:Blk w1 w.heap.size 26 #[.slice A n c,.slice B m d,.slice C k e]:=by rw [hw1];exact Qbi);(have hO:Blk w1 (w.heap.size+1) 57 #[xA,xB,xC,.slice Q L cq,.slice G L cg,.slice AE S ce]:=by rw [hw1];exact Qbi);(have hR:Blk w1 (w.heap.size+2) 66 #[.slice none 0 0,.int .i64 0]:=by rw [hw1];exact Qbi);(clear hw1;with_reducible refine (HHS.out w1).mono ?_);rintro r w2 ⟨rfl,hb2⟩;have hN:=hN.below hb2 hN.lt;have hO:=hO.below hb2 hO.lt;have hR:=hR.below hb2 hR.lt;have hb:=Zb hb hb2;clear hb2 HHS;have y5:w2.cell? ⟨w.heap.size+1,5,none⟩=some (.slice AE S ce):=Zq hO;(go_wp2_with fail);(clear y5;with_reducible refine (Qkv _ _ _ _).mono ?_);exact Kal};have hc:=hc hns;have hns2:(NC:Int)=S:=by omega
 obtain ⟨ev,hev⟩:=Zx (enF N ls ((j:Int)+1) f);by_cases h0:ev<0
 {have HBAD:=Zh (show Qez N ls NC S ((j:Int)+1) f t 2 5 from .inr (.inr (.inl ⟨hin,hns,by rw [←hev];exact h0,rfl,rfl⟩)));rw [←hev] at HEN;clear hns hlv hLL h hok hP hO hc HLE hin hev;(go_enter func22,ntmps22);(go_wp2_with fail);(refine Qac ?_;intro w1 hw1);(have hb:Below w.heap.size w w1:=by rw [hw1];exact Qah);(have hN:Blk w1 w.heap.size 26 #[.slice A n c,.slice B m d,.slice C k e]:=by rw [hw1];exact Qbi);(have hO:Blk w1 (w.heap.size+1) 57 #[xA,xB,xC,.slice Q L cq,.slice G L cg,.slice AE S ce]:=by rw [hw1];exact Qbi);(have hR:Blk w1 (w.heap.size+2) 66 #[.slice none 0 0,.int .i64 0]:=by rw [hw1];exact Qbi);(clear hw1;with_reducible refine (HHS.out w1).mono ?_);rintro r w2 ⟨rfl,hb2⟩;have hN:=hN.below hb2 hN.lt;have hO:=hO.below hb2 hO.lt;have hR:=hR.below hb2 hR.lt;have hb:=Zb hb hb2;clear hb2 HHS;obtain ⟨x0,x1,x2⟩:=hN.three;have y3:w2.cell? ⟨w.heap.size+1,3,none⟩=some (.slice Q L cq):=Zq hO;have y5:w2.cell? ⟨w.heap.size+1,5,none⟩=some (.slice AE S ce):=Zq hO;(go_wp2_with fail);(with_reducible refine (HEN.out w2 hb).mono ?_);rintro r w2' ⟨rfl,hb2⟩;have hN:=hN.below hb2 hN.lt;have hO:=hO.below hb2 hO.lt;have hR:=hR.below hb2 hR.lt;have hb:=Zb hb hb2;clear x0 x1 x2 y3 y5 hb2 HEN;exact Kak};obtain ⟨lw,hlw⟩:∃ ev,ev=leF N ls ((j:Int)+1) t:=⟨_,rfl⟩;by_cases h1:lw=ev;rotate_left;{have HBAD:=Zh (show Qez N ls NC S ((j:Int)+1) f t 3 5 from .inr (.inr (.inr (.inl ⟨hin,hns,by omega,by rw [←hlw,←hev];exact h1,rfl,rfl⟩))));(have h2:(lw != ev)=true:=by simpa using h1);rw [←hev] at HEN;rw [←hlw] at HLE;clear hns hlv hLL h hok hP hO hc hin hev hlw h1;(go_enter func22,ntmps22);(go_wp2_with fail);(refine Qac ?_;intro w1 hw1);(have hb:Below w.heap.size w w1:=by rw [hw1];exact Qah);(have hN:Blk w1 w.heap.size 26 #[.slice A n c,.slice B m d,.slice C k e]:=by rw [hw1];exact Qbi);(have hO:Blk w1 (w.heap.size+1) 57 #[xA,xB,xC,.slice Q L cq,.slice G L cg,.slice AE S ce]:=by rw [hw1];exact Qbi);(have hR:Blk w1 (w.heap.size+2) 66 #[.slice none 0 0,.int .i64 0]:=by rw [hw1];exact Qbi);(clear hw1;with_reducible refine (HHS.out w1).mono ?_);rintro r w2 ⟨rfl,hb2⟩;have hN:=hN.below hb2 hN.lt;have hO:=hO.below hb2 hO.lt;have hR:=hR.below hb2 hR.lt;have hb:=Zb hb hb2;clear hb2 HHS;obtain ⟨x0,x1,x2⟩:=hN.three;have y3:w2.cell? ⟨w.heap.size+1,3,none⟩=some (.slice Q L cq):=Zq hO;have y5:w2.cell? ⟨w.heap.size+1,5,none⟩=some (.slice AE S ce):=Zq hO;(go_wp2_with fail);(with_reducible refine (HEN.out w2 hb).mono ?_);rintro r w2' ⟨rfl,hb2⟩;have hN:=hN.below hb2 hN.lt;have hO:=hO.below hb2 hO.lt;have hR:=hR.below hb2 hR.lt;have hb:=Zb hb hb2;clear x0 x1 x2 y3 y5 hb2 HEN;obtain ⟨x0,x1,x2⟩:=hN.three;have y3:w2'.cell? ⟨w.heap.size+1,3,none⟩=some (.slice Q L cq):=Zq hO;(go_wp2_with fail);(with_reducible refine (HLE.out w2' hb).mono ?_);rintro r w2a ⟨rfl,hb2⟩;have hN:=hN.below hb2 hN.lt;have hO:=hO.below hb2 hO.lt;have hR:=hR.below hb2 hR.lt;have hb:=Zb hb hb2;clear x0 x1 x2 y3 hb2 HLE;exact Kak};obtain ⟨a,b,j',l,y,z,rfl,rfl,ej,hl,hy,hz,g1,g2,g3,g4⟩:=Qxu (N:=N) (ls:=ls) (lv:=(j:Int)+1) (f:=f) (t:=t) (by omega) (by rw [←hlw,←hev];exact h1);obtain rfl:j=j':=by omega
 obtain ⟨cc,p,q,kk,x,hcx,hx,hp,hq,hp2,hq2,hI⟩:=Qhy hok hP hl hy hz g1 g2 g3;obtain ⟨v,hv,hE⟩:=hc.2.at_ hI;have hvb:=hE.bd hok;have e1:ev=(cc:Int):=by rw [hev,g4,hcx]
 have e2:lw=(cc:Int):=by rw [h1,e1]
 rw [←hev,e1] at HEN;rw [←hlw,e2] at HLE;obtain ⟨hk,hu⟩:=Qtg hO.ent (by rw [hO.len,hO.sum]) hI;have HET:=Zh (fun V (hV:Below w.heap.size w V)=>Qkx A B C Q G AE n m k c d e L cq cg S ce xA xB xC N ls EL j a b cc p q kk l x V (h.below hV) hok hP (hO.below hV) hl hx (by rw [←hev,e1]) (by rw [←hlw,e2]) hp hq hk hu);have hkn:kk<NC:=by rw [←hc.1.1];exact (Zs hv).1
 obtain ⟨cb,co,v',hCA,hv',cv⟩:=hc.1.at_ hkn;rw [hv] at hv';cases hv';subst hCA;have HCV:=Zh cv;have k3:(kk:Int)<NC:=by omega
 have k4:0≤(kk:Int):=by omega
 have h0:¬(cc:Int)<0:=by omega
 have h2:((cc:Int) != (cc:Int))=false:=by simp
 have HGB:=Zh (show (v=1152921504606846976→Qez N ls NC S ((j:Int)+1) (a:Int) (b:Int) 4 12)∧(v≠1152921504606846976→Qwb N ls NC S ((j:Int)+1) (a:Int) (b:Int)) from
  ⟨fun hi=>.inr (.inr (.inr (.inr ⟨hns,⟨a,b,j,l,y,z,rfl,rfl,rfl,hl,hy,hz,g1,g2,g3,by rw [hcx,←hi];exact hE⟩,rfl,rfl⟩))),
   fun hi=>⟨a,b,j,cc,l,v,hns,rfl,rfl,rfl,hl,⟨y,hy,by rw [←hcx];exact g1,hcx⟩,⟨z,hz,by rw [←hcx];exact g2,by rw [←hcx];exact g3⟩,hE,hi⟩⟩)
 clear hns hlv hLL h hok hP hO hc hin hev hlw h1 e1 e2 g1 g2 g3 g4 hcx hx hp hq hp2 hq2 hI hv hE hvb hk hu hkn cv hl hy hz ej;go_enter func22,ntmps22
 go_wp2_with fail
 (refine Qac ?_;intro w1 hw1);have hb:Below w.heap.size w w1:=by rw [hw1];exact Qah
 have hN:Blk w1 w.heap.size 26 #[.slice A n c,.slice B m d,.slice C k e]:=by rw [hw1];exact Qbi
 have hO:Blk w1 (w.heap.size+1) 57 #[xA,xB,xC,.slice Q L cq,.slice G L cg,.slice AE S ce]:=by rw [hw1];exact Qbi
 have hR:Blk w1 (w.heap.size+2) 66 #[.slice none 0 0,.int .i64 0]:=by rw [hw1];exact Qbi
 clear hw1;with_reducible refine (HHS.out w1).mono ?_
 rintro r w2 ⟨rfl,hb2⟩;have hN:=hN.below hb2 hN.lt;have hO:=hO.below hb2 hO.lt;have hR:=hR.below hb2 hR.lt;have hb:=Zb hb hb2;clear hb2 HHS;obtain ⟨x0,x1,x2⟩:=hN.three;have y3:w2.cell? ⟨w.heap.size+1,3,none⟩=some (.slice Q L cq):=Zq hO;have y5:w2.cell? ⟨w.heap.size+1,5,none⟩=some (.slice AE S ce):=Zq hO;go_wp2_with fail
 with_reducible refine (HEN.out w2 hb).mono ?_
 rintro r w2' ⟨rfl,hb2⟩;have hN:=hN.below hb2 hN.lt;have hO:=hO.below hb2 hO.lt;have hR:=hR.below hb2 hR.lt;have hb:=Zb hb hb2;clear x0 x1 x2 y3 y5 hb2 HEN;obtain ⟨x0,x1,x2⟩:=hN.three;have y3:w2'.cell? ⟨w.heap.size+1,3,none⟩=some (.slice Q L cq):=Zq hO;go_wp2_with fail
 with_reducible refine (HLE.out w2' hb).mono ?_
 rintro r w2a ⟨rfl,hb2⟩;have hN:=hN.below hb2 hN.lt;have hO:=hO.below hb2 hO.lt;have hR:=hR.below hb2 hR.lt;have hb:=Zb hb hb2;clear x0 x1 x2 y3 hb2 HLE;obtain ⟨x0,x1,x2⟩:=hN.three;have y0:w2a.cell? ⟨w.heap.size+1,0,none⟩=some xA:=Zq hO;have y1:w2a.cell? ⟨w.heap.size+1,1,none⟩=some xB:=Zq hO;have y2:w2a.cell? ⟨w.heap.size+1,2,none⟩=some xC:=Zq hO;have y3:w2a.cell? ⟨w.heap.size+1,3,none⟩=some (.slice Q L cq):=Zq hO;have y4:w2a.cell? ⟨w.heap.size+1,4,none⟩=some (.slice G L cg):=Zq hO;have y5:w2a.cell? ⟨w.heap.size+1,5,none⟩=some (.slice AE S ce):=Zq hO;go_wp2_with fail
 with_reducible refine (HET.out w2a hb).mono ?_
 rintro r w2e ⟨rfl,hb2⟩;have hR:=hR.below hb2 hR.lt;have hb:=Zb hb hb2;clear x0 x1 x2 y0 y1 y2 y3 y4 y5 hb2 HET hN hO;have cvb:=Zc hb (Zn _) HCV.out;by_cases hvi:v=1152921504606846976;{have HBAD:=Zh (HGB.out.1 hvi);subst hvi;(go_wp2_with fail);(clear cvb;with_reducible refine (Qkv _ _ _ _).mono ?_);rintro e w3 ⟨A4,n4,m4,rfl,h4,hA4,h5,hb3⟩;have hB3:=hR.below hb3 hR.lt;obtain ⟨d0,d1,f0,f1⟩:=hB3.two;have hbw3:=Zb hb hb3;have HW:=Zh ((h4.setFar (w.heap.size+2) 0 (.slice A4 n4 m4) (fun b e=>⟨by have:=(hA4 b e).1;have:=hR.lt;omega,(hA4 b e).2⟩)).setFar (w.heap.size+2) 1 (.int .i64 12) (fun b e=>⟨by have:=(hA4 b e).1;have:=hR.lt;omega,by simpa [World.setCell] using (hA4 b e).2⟩));have hbw4:Below w.heap.size w ((w3.setCell ⟨w.heap.size+2,0,none⟩ (.slice A4 n4 m4)).setCell ⟨w.heap.size+2,1,none⟩ (.int .i64 12)):=(hbw3.setCell (by simp only;omega) _).setCell (by simp only;omega) _;clear h4 hA4 hb3;(go_wp2_with fail);refine bodyPost_ret (v:=.agg #[.slice A4 n4 m4,.int .i64 12]) (by simp [results,results22,go_sem,d0,d1]) rfl ?_;exact ⟨.inl ⟨_,_,_,_,_,HBAD.out,rfl,HW.out,h5⟩,hbw4⟩};{have HGD:=Zh (HGB.out.2 hvi);(have e1:(v == 1152921504606846976)=false:=by simpa using hvi);(have e2:decide (v=1152921504606846976)=false:=by simpa using hvi);obtain ⟨d0,d1,f0,f1⟩:=hR.two;have hbw4:Below w.heap.size w ((w2e.setCell ⟨w.heap.size+2,0,none⟩ (.slice none 0 0)).setCell ⟨w.heap.size+2,1,none⟩ (.int .i64 0)):=(hb.setCell (by simp only;omega) _).setCell (by simp only;omega) _;clear hvi HGB;(go_wp2_with fail);refine bodyPost_ret (v:=.agg #[.slice none 0 0,.int .i64 0]) (by simp [results,results22,go_sem,d0,d1]) rfl ?_;exact ⟨.inr ⟨HGD.out,rfl⟩,hbw4⟩}
end
set_option maxHeartbeats 1000000 in
theorem Qry (w:World)(g o:Nat)(N:Qam) (ls:List (List Int)) (CA:Option Addr) (NC cC S:Nat) (lv f t:Int) (ho:Qgh w o N.ar ls) (hP:Qat N.vs.length ls) (hS:S=Qbw (Qae N.ar ls)) (hns:NC≠S) :
 Calls prog 21 #[.pointer (some ⟨g,0,none⟩),.pointer (some ⟨o,0,none⟩),.slice CA NC cC,.int .i64 lv,.int .i64 f,.int .i64 t] w fun e w'=>(∃ k c v,Qez N ls NC S lv f t k c∧e=.returned (.tuple #[.slice none 0 0,v])∧Qcj w' v [((⟨#[108,101,97,112]⟩:ByteArray),k)] c)∧Below w.heap.size w w':=by
 refine Calls.mono (R:=fun e w'=>((∃ k c v,Qez N ls NC S lv f t k c∧e=.returned (.tuple #[.slice none 0 0,v])∧Qcj w' v [((⟨#[108,101,97,112]⟩:ByteArray),k)] c)∨False)∧Below w.heap.size w w') ?_ (fun _ _ h=>⟨h.1.resolve_right id,h.2⟩);have HLS:=Zh (fun V (hV:Below w.heap.size w V)=>Qhk o N.ar ls V (ho.below hV));have HSZ:=Zh (fun V (hV:Below w.heap.size w V)=>(show Calls prog 48 #[.pointer (some ⟨o,0,none⟩)] V fun e w'=>e=.returned (.int .i64 (S:Nat))∧V=w' from by rw [hS];exact Qic o N.ar ls V (ho.below hV)));obtain ⟨L,hL⟩:=Zx ls.length;rw [←hL] at HLS;by_cases hlo:lv<1
 {have HBAD:=Zh (show Qez N ls NC S lv f t 0 1 from .inl ⟨.inl hlo,rfl,rfl⟩);clear ho hP hS hns hL HLS HSZ;(go_enter func21,ntmps21);exact Kaf};have hL6:L≤6:=by rw [hL];exact hP.l6
 by_cases hhi:(L:Int)<lv
 {have HBAD:=Zh (show Qez N ls NC S lv f t 0 1 from .inl ⟨.inr (by omega),rfl,rfl⟩);clear ho hP hS hns hL HSZ;exact Kci};have HBAD:=Zh (show Qez N ls NC S lv f t 1 1 from .inr (.inl ⟨by omega,hns,rfl,rfl⟩));have hns2:¬(NC:Int)=S:=by omega
 clear ho hP hS hns hL;exact Kbm
end Go.Proofs.YtdheeddnkdhfeaaGreatDoor
namespace Go.Proofs.YtdheeddnkdhfeaaGreatDoor
open Go.RowKit Go.Proofs.Tryz
attribute [local go_sem ↓] Go.wp_at_zero Go.wp_at_succ
theorem Qrq {n:Nat} {p:Option (List Int)} {l:List Int} (h:Qfe n p l=0):Qgg n l∧∀ q,p=some q→Qdr q l:=by
 unfold Qfe at h;split at h
 {cases h};{(split at h);{assumption};{cases h}}
set_option maxHeartbeats 2000000 in
set_option maxRecDepth 20000 in
theorem Qnf (Q:Option Addr)(n L cq:Nat) (ls:List (List Int)) (w:World) (h:RdT w Q L ls) :
 Calls prog 86 #[.int .i64 n,.agg #[.slice Q L cq],.slice none 0 0] w fun e w'=>Qbx (Qat n ls) e∧Below w.heap.size w w':=by
 have HT:=Zh h;clear h;by_cases q0:(n:Int) > 4096;{(go_enter func86,ntmps86);(go_wp2_with fail);(refine Qac ?_;intro w5 hw5);(have hB5:Blk w5 (w.heap.size+1) 66 #[.slice none 0 0,.int .i64 0]:=by rw [hw5];exact Qbi);(have hb5:Below w.heap.size w w5:=by rw [hw5];exact Qah);exact Kaz};by_cases q1:(L:Int) > 6;{(go_enter func86,ntmps86);(go_wp2_with fail);(refine Qac ?_;intro w5 hw5);(have hB5:Blk w5 (w.heap.size+1) 66 #[.slice none 0 0,.int .i64 0]:=by rw [hw5];exact Qbi);(have hb5:Below w.heap.size w w5:=by rw [hw5];exact Qah);exact Kaz};by_cases q2:L=0;{(have j1:((L:Int) == 0)=true:=by simp;exact q2);(go_enter func86,ntmps86);(go_wp2_with fail);(refine Qac ?_;intro w5 hw5);(have hB5:Blk w5 (w.heap.size+1) 66 #[.slice none 0 0,.int .i64 0]:=by rw [hw5];exact Qbi);(have hb5:Below w.heap.size w w5:=by rw [hw5];exact Qah);(clear hw5;with_reducible refine (Qav _ _ _ _).mono ?_);rintro e w2 ⟨⟨A4,n4,m4,rfl,hg4⟩,hb⟩;have hB2:=Blk.below hB5 hb hB5.lt;obtain ⟨c0,c1,f0,f1⟩:=hB2.two;have hb2:Below w.heap.size w w2:=Zb hb5 hb;(go_wp2_with fail);refine bodyPost_ret (v:=.agg #[.slice A4 n4 m4,.int .i64 1]) (by simp [results,results86,go_sem,c0,c1]) rfl ?_;exact Kad};have j1:((L:Int) == 0)=false:=by simp;exact q2
 go_enter func86,ntmps86
 go_wp2_with fail
 (refine Qaj ?_;intro w1 hw1);have hb1:Below w.heap.size w w1:=by rw [hw1];exact Qah
 have hQ:Blk w1 w.heap.size 29 #[.slice Q L cq]:=by rw [hw1];exact Qbi
 have hB:Blk w1 (w.heap.size+1) 66 #[.slice none 0 0,.int .i64 0]:=by rw [hw1];exact Qbi
 clear hw1;go_loopw [7] (fun q W=>Below w.heap.size w W∧Blk W w.heap.size 29 #[.slice Q L cq]∧Blk W (w.heap.size+1) 66 #[.slice none 0 0,.int .i64 0]∧∃ i:Nat,i≤L∧q=.int .i64 ((i:Int)+1)∧∀ (j:Nat) (l:List Int),j<i→ls[j]?=some l→Qgg n l∧∀ q,Qgf ls j=some q→Qdr q l) (fun q _=>L+1-(intOf q).toNat)
 case atStart=>exact ⟨hb1,hQ,hB,0,Nat.zero_le _,rfl,fun _ _ h=>absurd h (Nat.not_lt_zero _)⟩
 case round =>
  clear hb1 hQ hB;obtain ⟨hbl,hQ,hB,i,hi,rfl,hall⟩:=hrel;have HA:=Zh hall;clear hall;have y0:=hQ.cell 0;simp only [Yo,Yn] at y0;by_cases hlt:i<L
  · obtain ⟨l,hl⟩:∃ l,ls[i]?=some l:=⟨_,Zg (by rw [HT.out.1];exact hlt)⟩;(have HCL:=Zh (Qlq Q n L cq i ls l wr (HT.out.below hbl) hl (by omega) (by omega) (fun j p e hp=>(HA.out j p (by omega) hp).1.len));have HLL:=Zh hl;have HI:=Zh (@Qrq n (Qgf ls i) l);have i1:(i:Int)+1≤L:=by omega);clear hl;generalize Qfe n (Qgf ls i) l=code at *;(go_wp2_with fail);(with_reducible refine HCL.out.mono ?_);rintro e w2 ⟨rfl,hb2⟩;have hQ2:=hQ.below hb2 hQ.lt;have hB2:=hB.below hb2 hB.lt;have hbw2:=Zb hbl hb2;clear hQ hB y0 HCL hb2;by_cases hc:code=0
    · subst hc;have HO:=Zh (HI.out rfl);clear HI;(go_wp2_with fail);go_roundw
      case rel=>exact ⟨hbw2,hQ2,hB2,i+1,by omega,by go_num,fun j l' hj hl'=>by
       by_cases e:j=i
       · subst e
         rw [HLL.out] at hl'
         cases hl'
         exact HO.out
       · exact HA.out j l' (by omega) hl'⟩
      case measure=>simp [intOf];omega
    {(have e1:(code == 0)=false:=by simpa using hc);(have e2:(code != 0)=true:=by simpa using hc);have HC:=Zh hc;clear hc;(go_wp2_with fail);(with_reducible refine (Qav _ _ _ _).mono ?_);rintro e w3 ⟨⟨A4,n4,m4,rfl,hg4⟩,hb3⟩;have hB3:=hB2.below hb3 hB2.lt;obtain ⟨c0,c1,f0,f1⟩:=hB3.two;have hbw3:=Zb hbw2 hb3;(go_wp2_with fail);refine bodyPost_ret (v:=.agg #[.slice A4 n4 m4,.int .i64 code]) (by simp [results,results86,go_sem,c0,c1]) rfl ?_;exact ⟨Qbx.no HC.out,Qah⟩}
  · (obtain rfl:L=i:=by omega);obtain ⟨c0,c1,f0,f1⟩:=hB.two;have zB:=hB.lt
    have HP:=Zh (show Qat n ls from ⟨by rw [HT.out.1];omega,by rw [HT.out.1];omega,fun l hl=>by
     obtain ⟨j,hj⟩:=Yr hl;exact (HA.out j l (by rw [←HT.out.1];exact (Zs hj).1) hj).1,fun j p l hp hl=>(HA.out (j+1) l (by rw [←HT.out.1];exact (Zs hl).1) hl).2 p (by rw [Qhl];exact hp)⟩)
    clear HA;(go_wp2_with fail);refine bodyPost_ret (v:=.agg #[.slice none 0 0,.int .i64 0]) (by simp [results,results86,go_sem,c0,c1]) rfl ?_;exact ⟨⟨_,_,_,_,rfl,.inl ⟨rfl,HP.out⟩⟩,Qah⟩
structure FewP (ls:List (List Int)):Prop where
 l:ls.length≤10
 r:∀ l∈ls,l.length≤60
set_option maxHeartbeats 1000000 in
theorem fewP_any (Q:Option Addr)(L cq:Nat) (ls:List (List Int)) (w:World) (h:RdT w Q L ls) (hL:L≤9223372036854775807) :
 Calls prog 85 #[.agg #[.slice Q L cq]] w fun e w'=>Qij (FewP ls) e∧Below w.heap.size w w':=by
 have HT:=Zh h;have HLE:=Zh h.1;clear h;go_enter func85,ntmps85
 go_wp2_with fail
 (refine Qaj ?_;intro w1 hw1);have hb1:Below w.heap.size w w1:=by rw [hw1];exact Qah
 have hQ:Blk w1 w.heap.size 29 #[.slice Q L cq]:=by rw [hw1];exact Qbi
 have H1:=Zh (HT.out.below hb1);clear hw1;have y0:=hQ.cell 0;simp only [Yo,Yn] at y0;go_loop [3] (fun q=>∃ i:Nat,i≤L∧q=.int .i64 i∧∀ j l,j<i→ls[j]?=some l→l.length≤60) (fun q=>L-(intOf q).toNat)
 case atStart=>exact ⟨0,Nat.zero_le _,rfl,fun _ _ h=>absurd h (Nat.not_lt_zero _)⟩
 case round =>
  obtain ⟨i,hi,rfl,hall⟩:=hrel;have HA:=Zh hall;clear hall;by_cases hlt:i<L
  · obtain ⟨b,o,A,n,c,l,rfl,hl,hc,hr,q1,q2⟩:=H1.out.at_ hlt;(have i1:0≤(i:Int):=by omega);(have i2:(i:Int)<L:=by omega);have HLL:=Zh hl;have HR:=Zh hr.1;clear hl hr;by_cases q3:(n:Int) > 60;{(go_wp2_with fail);go_ret;exact ⟨⟨false,rfl,fun h=>by cases h⟩,hb1⟩}
    · (go_wp2_with fail);go_round
      case rel=>exact ⟨i+1,by omega,by go_num,fun j l' hj hl'=>by
       by_cases e:j=i
       · subst e
         rw [HLL.out] at hl'
         cases hl'
         rw [HR.out];omega
       · exact HA.out j l' (by omega) hl'⟩
      case measure=>simp [intOf];omega
  {(obtain rfl:L=i:=by omega);(go_wp2_with fail);go_ret;refine ⟨⟨_,rfl,fun h=>⟨by rw [HLE.out];have:=of_decide_eq_true h;omega,fun l hl=>?_⟩⟩,hb1⟩;obtain ⟨j,hj⟩:=Yr hl;exact HA.out j l (by rw [←HLE.out];exact (Zs hj).1) hj}
set_option maxHeartbeats 1000000 in
theorem Qya (Q:Option Addr)(n L cq:Nat) (ls:List (List Int)) (w:World) (h:RdT w Q L ls) (hL:L≤9223372036854775807) :
 Calls prog 38 #[.int .i64 n,.agg #[.slice Q L cq]] w fun e w'=>Qij (FewP ls∧n≤60∧Qat n ls) e∧Below w.heap.size w w':=by
 have HT:=Zh h;clear h;go_enter func38,ntmps38
 go_wp2_with fail
 (refine Qac ?_;intro w1 hw1);have hb1:Below w.heap.size w w1:=by rw [hw1];exact Qah
 have hQ:Blk w1 w.heap.size 29 #[.slice Q L cq]:=by rw [hw1];exact Qbi
 clear hw1;with_reducible refine (fewP_any Q L cq ls w1 (HT.out.below hb1) hL).mono ?_
 rintro e w2 ⟨⟨bb,rfl,hf⟩,hb2⟩;have hbw2:=Zb hb1 hb2;have y0:=(hQ.below hb2 hQ.lt).cell 0;simp only [Yo,Yn] at y0;clear hQ hb2;cases bb;{(go_wp2_with fail);exact Kcw};have HF:=Zh (hf rfl);clear hf;by_cases q0:(n:Int)≤60;rotate_left;{(go_wp2_with fail);exact Kcw};go_wp2_with fail
 with_reducible refine (Qnf Q n L cq ls w2 (HT.out.below hbw2)).mono ?_
 rintro e w3 ⟨⟨A4,k4,c4,x,rfl,hx⟩,hb3⟩;have hbw3:=Zb hbw2 hb3;have hfe:=Qsv A4 k4 c4 x w3;clear y0;rcases hx with ⟨rfl,hG⟩|hx
 {have HG:=Zh hG;clear hG;(go_wp2_with fail);go_ret;exact ⟨⟨true,rfl,fun _=>⟨HF.out,by omega,HG.out⟩⟩,hbw3⟩};{(go_wp2_with fail);go_ret;exact ⟨⟨_,rfl,fun h=>absurd (by simpa using h) hx⟩,hbw3⟩}
structure MayOk (N:Qam) (ls:List (List Int)):Prop where
 small:Qwd N
 few:FewP ls
 part:Qat N.vs.length ls
set_option maxHeartbeats 1000000 in
theorem Qyb (A B C Q:Option Addr)(n m k c d e L cq:Nat)(N:Qam) (ls:List (List Int)) (w:World) (h:Qbz w A B C n m k N) (hk:k≤9223372036854775807) (hq:RdT w Q L ls) (hL:L≤9223372036854775807) :
 Calls prog 9 #[.agg #[.slice A n c,.slice B m d,.slice C k e],.agg #[.slice Q L cq]] w fun e w'=>Qij (MayOk N ls) e∧Below w.heap.size w w':=by
 have HH:=Zh h;have HT:=Zh hq;have HLV:=Zh h.1.1;clear h hq;go_enter func9,ntmps9
 go_wp2_with fail
 (refine Qac ?_;intro w1 hw1);have hb1:Below w.heap.size w w1:=by rw [hw1];exact Qah
 have hN:Blk w1 w.heap.size 26 #[.slice A n c,.slice B m d,.slice C k e]:=by rw [hw1];exact Qbi
 have hQ:Blk w1 (w.heap.size+1) 29 #[.slice Q L cq]:=by rw [hw1];exact Qbi
 clear hw1;with_reducible refine (Qzc A B C n m k c d e N w1 (HH.out.below hb1) hk).mono ?_
 rintro r w2 ⟨⟨bb,rfl,hf⟩,hb2⟩;have hbw2:=Zb hb1 hb2;have y0:=(hQ.below hb2 hQ.lt).cell 0;simp only [Yo,Yn] at y0;obtain ⟨n0,n1,n2⟩:=(hN.below hb2 hN.lt).three;clear hQ hb2 hN;cases bb;{(go_wp2_with fail);exact Kcw};have HF:=Zh (hf rfl);clear hf;go_wp2_with fail
 with_reducible refine (Qya Q n L cq ls w2 (HT.out.below hbw2) hL).mono ?_
 rintro r w3 ⟨⟨bb,rfl,hf⟩,hb3⟩;have HF2:=Zh hf;have hbw3:=Zb hbw2 hb3;clear hf;go_wp2_with fail
 go_ret;exact ⟨⟨bb,rfl,fun h=>⟨HF.out,(HF2.out h).1,by rw [HLV.out];exact (HF2.out h).2.2⟩⟩,hbw3⟩
end Go.Proofs.YtdheeddnkdhfeaaGreatDoor
