/- Parts of the proof: Hx, Hy, Hz, Gb, Gt, Hv. -/
import Derived.Test.YtdheeddnkdhfeaaGreatDoorH3
namespace Go.Proofs.YtdheeddnkdhfeaaGreatDoor
open Go.RowKit Go.Proofs.Tryz
attribute [local go_sem ↓] Go.wp_at_zero Go.wp_at_succ
def hAh (x y:Int)(a b:Nat):Bool:=if x≠y then decide (x<y) else decide (a<b)
theorem hAh_t {x y:Int}{a b:Nat}(h:hAh x y a b=true):x≤y:=by unfold hAh at h;by_cases e:x=y;{omega};{rw [if_pos e] at h;have:=of_decide_eq_true h;omega}
theorem hAh_f {x y:Int}{a b:Nat}(h:hAh x y a b=false):y≤x:=by unfold hAh at h;by_cases e:x=y;{omega};{rw [if_pos e] at h;have:=of_decide_eq_false h;omega}
section
variable {G:Nat→Prop} {g gc gs gr n m c:Nat} {R:List Nat} {C:List Int} {S:List Nat}
set_option maxHeartbeats 1000000 in
theorem Qml (w:World) (h:Qbk w G g (some ⟨gr,0,none⟩) gc gs n m c R C S) {i j a b:Nat} {x y:Int} (hi:R[i]?=some a) (hj:R[j]?=some b) (hx:C[a]?=some x) (hy:C[b]?=some y) (hn:b<n) :
 Calls prog 185 #[.pointer (some ⟨g,0,none⟩),.int .i64 i,.int .i64 j] w fun e w'=>e=.returned (.bool (hAh x y a b))∧Below w.heap.size w w':=by
 obtain ⟨hm,hcc⟩:=h.cap;have hn0:=h.n0;have hia:=(Zs hi).1;have hjb:=(Zs hj).1;have hxa:=(Zs hx).1;have hlr:=h.lr;have hlc:=h.lc;have HS:=Zh (show ∀ V,Below w.heap.size w V→Qbk V G g (some ⟨gr,0,none⟩) gc gs n m c R C S from fun V hV=>h.keep hV);have i1:0≤(i:Int):=by omega
 have i2:(i:Int)<m:=by omega
 have i3:0≤(j:Int):=by omega
 have i4:(j:Int)<m:=by omega
 have i5:0≤(a:Int):=by omega
 have i6:(a:Int)<n:=by omega
 have i7:0≤(b:Int):=by omega
 have i8:(b:Int)<n:=by omega
 have HSX:=Zh (show ∀ V,Below w.heap.size w V→V.cell? ⟨g,0,none⟩=some (.slice (some ⟨gr,0,none⟩) m c)∧V.cell? ⟨g,1,none⟩=some (.slice (some ⟨gc,0,none⟩) n n)∧V.cell? ⟨gr,i,none⟩=some (.int .i64 a)∧V.cell? ⟨gr,j,none⟩=some (.int .i64 b)∧V.cell? ⟨gc,a,none⟩=some (.int .i64 x)∧V.cell? ⟨gc,b,none⟩=some (.int .i64 y) from
  fun V hV=>⟨(h.keep hV).f0,(h.keep hV).f1,(h.keep hV).rowAt hi,(h.keep hV).rowAt hj,(h.keep hV).costAt hx,(h.keep hV).costAt hy⟩)
 have f0:=h.f0;have f1:=h.f1;have r1:=h.rowAt hi;have r2:=h.rowAt hj;have q1:=h.costAt hx;have q2:=h.costAt hy;clear h hi hj hx hy HS;go_enter func185,ntmps185
 go_wp2_with fail
 refine wp_region_held_drew (S:=fun V=>Below w.heap.size w V) (by kernel_rfl) (Zr _ _).drew (fun _=>?_);refine tzd 0 9 ?_;refine tzd 4 13 ?_;refine tzd 8 17 ?_;refine tzb 12 21 ?_;refine tzb 14 7 ?_;refine Zd ?_;go_wp2_with fail
 refine wp_region_held_drew (S:=fun V=>Below w.heap.size w V) (by kernel_rfl) (Zr _ _).drew.drew (fun _=>?_);refine tzd 0 23 ?_;refine tzd 4 27 ?_;refine tzd 8 31 ?_;refine tzb 12 35 ?_;refine tz 14 37 ?_;refine Zd ?_;by_cases hxy:x=y;{(have e1:(x == y)=true:=by simp [hxy]);(go_wp2_with fail);go_ret;exact ⟨Qbh (by simp [hAh,hxy]),Qah⟩};{(have e1:(x == y)=false:=by simp [hxy]);(go_wp2_with fail);refine wp_region_held_drew (S:=fun V=>Below w.heap.size w V) (by kernel_rfl) (Zr _ _).drew.drew.drew (fun _=>?_);refine tzd 0 38 ?_;refine tzd 4 42 ?_;refine tzd 8 46 ?_;refine tzb 12 50 ?_;refine tz 14 52 ?_;refine tz 15 6 ?_;refine Zd ?_;(go_wp2_with fail);go_ret;exact ⟨Qbh (by simp [hAh,hxy]),Qah⟩}
set_option maxHeartbeats 2000000 in
theorem Qkj (w:World) (h:Qbk w G g (some ⟨gr,0,none⟩) gc gs n m c R C S) {i j a b:Nat} (hi:R[i]?=some a) (hj:R[j]?=some b) (ha:a<n) (hb:b<n) :
 Calls prog 150 #[.pointer (some ⟨g,0,none⟩),.int .i64 i,.int .i64 j] w fun e w'=>e=.returned (.tuple #[])∧Qbk w' G g (some ⟨gr,0,none⟩) gc gs n m c (Qec R i j) C (Qjf R S i j)∧Aft G w w':=by
 have hm:=h.cap.1;have hcc:=h.cap.2;have hn0:=h.n0;have hia:=(Zs hi).1;have hjb:=(Zs hj).1;have hlr:=h.lr;have hls:=h.ls;have i1:0≤(i:Int):=by omega
 have i2:(i:Int)<m:=by omega
 have i3:0≤(j:Int):=by omega
 have i4:(j:Int)<m:=by omega
 have i5:0≤(a:Int):=by omega
 have i6:(a:Int)<n:=by omega
 have i7:0≤(b:Int):=by omega
 have i8:(b:Int)<n:=by omega
 have f0:=h.f0;have f2:=h.f2;have r1:=h.rowAt hi;have r2:=h.rowAt hj;have z1:w.frozen? ⟨gr,i,none⟩=false:=h.fzR;have z2:w.frozen? ⟨gr,j,none⟩=false:=h.fzR;have hR1:Qec R i j=(R.set i b).set j a:=by unfold Qec;rw [Qcp hi,Qcp hj]
 have hS1:Qjf R S i j=(S.set b (i+1)).set a (j+1):=by unfold Qjf;rw [Qcp hi,Qcp hj]
 have hw1:=h.setR (i:=i) (k:=b);have g1:(R.set i b)[j]?=some b:=by{rw [List.getElem?_set];by_cases e:i=j;{subst e;simp [hia]};{rw [if_neg e];exact hj}};have r3:=hw1.rowAt g1;have hw2:=hw1.setR (i:=j) (k:=a);have g2:((R.set i b).set j a)[i]?=some b:=by{rw [List.getElem?_set];by_cases e:j=i;{subst e;rw [hi] at hj;cases hj;simp [hia]};{rw [if_neg e];simp [hia]}};have g3:((R.set i b).set j a)[j]?=some a:=by simp [hjb]
 have HW2:=Zh hw2;have HF:=Zh ((h.dA gr rfl).2.2.2);clear h hw1 hw2;go_enter func150,ntmps150
 go_wp2_with fail
 refine Qbj 25 (S:=fun V=>V.cell? ⟨g,0,none⟩=some (.slice (some ⟨gr,0,none⟩) m c)∧V.cell? ⟨gr,i,none⟩=some (.int .i64 a)∧V.cell? ⟨gr,j,none⟩=some (.int .i64 b)) (by kernel_rfl) ⟨f0,r1,r2⟩ (fun _=>?_);refine tkF 0 6 (h:=⟨_,tv,?_⟩);simp only [pE,List.set];refine tkF 1 7 (h:=⟨_,tv,?_⟩);simp only [pE,List.set];refine tkF 2 8 (h:=⟨_,tv,?_⟩);simp only [pE,List.set];refine tkK 3 9 (h:=⟨_,tv,?_⟩);simp only [pE,List.set];refine tkF 4 10 (h:=⟨_,tv,?_⟩);simp only [pE,List.set];refine tkF 5 11 (h:=⟨_,tv,?_⟩);simp only [pE,List.set];refine tkF 6 12 (h:=⟨_,tv,?_⟩);simp only [pE,List.set];refine tkF 7 13 (h:=⟨_,tv,?_⟩);simp only [pE,List.set];refine tkK 8 14 (h:=⟨_,tv,?_⟩);simp only [pE,List.set];refine tkF 9 15 (h:=⟨_,tv,?_⟩);simp only [pE,List.set];refine tkF 10 16 (h:=⟨_,tv,?_⟩);simp only [pE,List.set];refine tkF 11 17 (h:=⟨_,tv,?_⟩);simp only [pE,List.set];refine tkF 12 18 (h:=⟨_,tv,?_⟩);simp only [pE,List.set];refine tkK 13 19 (h:=⟨_,tv,?_⟩);simp only [pE,List.set];refine tkF 14 20 (h:=⟨_,tv,?_⟩);simp only [pE,List.set];refine tkF 15 21 (h:=⟨_,tv,?_⟩);simp only [pE,List.set];refine tkK 16 22 (h:=⟨_,tv,?_⟩);simp only [pE,List.set];refine tkF 17 23 (h:=⟨_,tv,?_⟩);simp only [pE,List.set];refine tkF 18 24 (h:=⟨_,tv,?_⟩);simp only [pE,List.set];refine tkF 19 25 (h:=⟨_,tv,?_⟩);simp only [pE,List.set];refine tkK 20 26 (h:=⟨_,tv,?_⟩);simp only [pE,List.set];refine tkF 21 27 (h:=⟨_,tv,?_⟩);simp only [pE,List.set];refine tkF 22 28 (h:=⟨_,tv,?_⟩);simp only [pE,List.set];refine tkK 23 29 (h:=⟨_,tv,?_⟩);simp only [pE,List.set];refine tkF 24 30 (h:=⟨_,tv,?_⟩);simp only [pE,List.set];refine Qbt (k:=25) (by kernel_rfl) rfl (fun K hK=>?_);go_simp;refine hK.out _ _ ?_;clear hK K;refine wpAny_of_held (S:=fun _=>True) _ _ _ _ ?_;refine tz 26 31 ?_;refine Zk 27 (fun K hK=>?_);go_simp;refine hK.out _ _ trivial (fun _=>?_);clear hK K;refine Zd ?_;obtain ⟨W2,hW2⟩:=Zx (((w.setCell ⟨gr,i,none⟩ (.int .i64 b)).setCell ⟨gr,j,none⟩ (.int .i64 a)).drew);have hh2:Qbk W2 G g (some ⟨gr,0,none⟩) gc gs n m c ((R.set i b).set j a) C S:=by rw [hW2];exact HW2.out.drew
 have ha2:Aft G w W2:=by rw [hW2];exact (((Aft.refl G w).set HF.out _).set HF.out _).drew
 have t0:W2.cell? ⟨g,0,none⟩=some (.slice (some ⟨gr,0,none⟩) m c):=hh2.f0;have t2:W2.cell? ⟨g,2,none⟩=some (.slice (some ⟨gs,0,none⟩) n n):=hh2.f2;have u1:=hh2.rowAt g2;have hw3:=hh2.setS (i:=b) (k:=i+1);have hw4:=hw3.drew.setS (i:=a) (k:=j+1);have p0:=hw3.drew.f0;have p2:=hw3.drew.f2;have q1:=hw3.drew.rowAt g3;have HW4:=Zh hw4;have HG:=Zh hh2.dG.2.2;have HA:=Zh ha2;have e2:((i+1:Nat):Int)=(i:Int)+1:=by omega
 have e3:((j+1:Nat):Int)=(j:Int)+1:=by omega
 have y1:W2.frozen? ⟨gs,b,none⟩=false:=hh2.ss.frozen b;have y2:W2.frozen? ⟨gs,a,none⟩=false:=hh2.ss.frozen a;have x1:∃ v,W2.cell? ⟨gs,b,none⟩=some v:=⟨_,hh2.seatAt (Qbq 0 (by omega))⟩;have x2:∃ v,(W2.setCell ⟨gs,b,none⟩ (.int .i64 ((i+1:Nat):Int))).drew.cell? ⟨gs,a,none⟩=some v:=⟨_,hw3.drew.seatAt (Qbq 0 (by rw [Yq];omega))⟩;obtain ⟨v1,x1⟩:=x1;obtain ⟨v2,x2⟩:=x2;rw [e2] at x2 p0 p2 q1;rw [←hW2];clear HW2 hW2 hh2 ha2 hw3 hw4 r1 r2 r3 f0 f2 z1 z2;go_wp2_with fail
 refine Qbj 14 (S:=fun V=>V.cell? ⟨g,0,none⟩=some (.slice (some ⟨gr,0,none⟩) m c)∧V.cell? ⟨g,2,none⟩=some (.slice (some ⟨gs,0,none⟩) n n)∧V.cell? ⟨gr,i,none⟩=some (.int .i64 b)) (by kernel_rfl) ⟨t0,t2,u1⟩ (fun _=>?_);refine tkF 0 32 (h:=⟨_,tv,?_⟩);simp only [pE,List.set];refine tkF 1 33 (h:=⟨_,tv,?_⟩);simp only [pE,List.set];refine tkF 2 34 (h:=⟨_,tv,?_⟩);simp only [pE,List.set];refine tkK 3 35 (h:=⟨_,tv,?_⟩);simp only [pE,List.set];refine tkF 4 36 (h:=⟨_,tv,?_⟩);simp only [pE,List.set];refine tkF 5 37 (h:=⟨_,tv,?_⟩);simp only [pE,List.set];refine tkF 6 38 (h:=⟨_,tv,?_⟩);simp only [pE,List.set];refine tkK 7 39 (h:=⟨_,tv,?_⟩);simp only [pE,List.set];refine tkF 8 40 (h:=⟨_,tv,?_⟩);simp only [pE,List.set];refine tkF 9 41 (h:=⟨_,tv,?_⟩);simp only [pE,List.set];refine tkK 10 42 (h:=⟨_,tv,?_⟩);simp only [pE,List.set];refine tkF 11 43 (h:=⟨_,tv,?_⟩);simp only [pE,List.set];refine tkF 12 44 (h:=⟨_,tv,?_⟩);simp only [pE,List.set];refine tkF 13 45 (h:=⟨_,tv,?_⟩);simp only [pE,List.set];refine Qbt (k:=14) (by kernel_rfl) rfl (fun K hK=>?_);go_simp;refine hK.out _ _ ?_;clear hK K;refine Qbp (by kernel_rfl) ?_ _;have e4:IntKind.i64.wrap ((i:Int)+1)=(i:Int)+1:=IntWalk.i64_in _ (by omega);have e5:IntKind.i64.wrap ((j:Int)+1)=(j:Int)+1:=IntWalk.i64_in _ (by omega);rw [e4];obtain ⟨W3,hW3⟩:=Zx ((W2.setCell ⟨gs,b,none⟩ (.int .i64 ((i:Int)+1))).drew);have y3:W3.frozen? ⟨gs,a,none⟩=false:=by rw [hW3];rw [e2] at HW4;exact (HW4.out.ss.frozen a).symm.trans (by simp) |>.symm.trans (by simp)
 rw [←hW3] at x2 p0 p2 q1;rw [e2,←hW3] at HW4;have HA3:=Zh (show Aft G w W3 by rw [hW3];exact (HA.out.set HG.out _).drew);rw [←hW3];clear hW3 HA t0 t2 u1 x1 y1 y2;go_wp2_with fail
 refine Qbj 14 (S:=fun V=>V.cell? ⟨g,0,none⟩=some (.slice (some ⟨gr,0,none⟩) m c)∧V.cell? ⟨g,2,none⟩=some (.slice (some ⟨gs,0,none⟩) n n)∧V.cell? ⟨gr,j,none⟩=some (.int .i64 a)) (by kernel_rfl) ⟨p0,p2,q1⟩ (fun _=>?_);refine tkF 0 46 (h:=⟨_,tv,?_⟩);simp only [pE,List.set];refine tkF 1 47 (h:=⟨_,tv,?_⟩);simp only [pE,List.set];refine tkF 2 48 (h:=⟨_,tv,?_⟩);simp only [pE,List.set];refine tkK 3 49 (h:=⟨_,tv,?_⟩);simp only [pE,List.set];refine tkF 4 50 (h:=⟨_,tv,?_⟩);simp only [pE,List.set];refine tkF 5 51 (h:=⟨_,tv,?_⟩);simp only [pE,List.set];refine tkF 6 52 (h:=⟨_,tv,?_⟩);simp only [pE,List.set];refine tkK 7 53 (h:=⟨_,tv,?_⟩);simp only [pE,List.set];refine tkF 8 54 (h:=⟨_,tv,?_⟩);simp only [pE,List.set];refine tkF 9 55 (h:=⟨_,tv,?_⟩);simp only [pE,List.set];refine tkK 10 56 (h:=⟨_,tv,?_⟩);simp only [pE,List.set];refine tkF 11 57 (h:=⟨_,tv,?_⟩);simp only [pE,List.set];refine tkF 12 58 (h:=⟨_,tv,?_⟩);simp only [pE,List.set];refine tkF 13 59 (h:=⟨_,tv,?_⟩);simp only [pE,List.set];refine Qbt (k:=14) (by kernel_rfl) rfl (fun K hK=>?_);go_simp;refine hK.out _ _ ?_;clear hK K;refine Qbp (by kernel_rfl) ?_ _;go_wp2_with fail
 go_end0;refine ⟨rfl,?_,(HA3.out.set HG.out _).drew⟩;rw [hR1,hS1,←e3];exact HW4.out.drew
end
section
variable {G:Nat→Prop} {g gc gs gr n m c:Nat} {R:List Nat} {C:List Int} {S:List Nat}
set_option maxHeartbeats 1000000 in
theorem Qxh (w:World) (h:Qbk w G g (some ⟨gr,0,none⟩) gc gs n m c R C S) (hp:HpS n R C S) (p:Nat) (hpm:p<m) (hu:UpO (at_ R C) m p) :
 Calls prog 149 #[.pointer (some ⟨g,0,none⟩),.int .i64 p] w fun e w'=>e=.returned (.tuple #[])∧∃ R' S',Qbk w' G g (some ⟨gr,0,none⟩) gc gs n m c R' C S'∧HpS n R' C S'∧Ord (at_ R' C) m∧(∀ k,k∈R'↔k∈R)∧Aft G w w':=by
 have hcap:=h.cap;have HH:=Zh h;have HP:=Zh hp;have HU:=Zh hu;clear h hp hu;go_enter func149,ntmps149
 go_wp2_with fail
 go_loopw [1] (fun q W=>∃ (p:Nat) (R' S':List Nat),q=.int .i64 p∧p<m∧Qbk W G g (some ⟨gr,0,none⟩) gc gs n m c R' C S'∧HpS n R' C S'∧UpO (at_ R' C) m p∧(∀ k,k∈R'↔k∈R)∧Aft G w W) (fun q _=>(intOf q).toNat)
 case atStart=>exact ⟨p,R,S,rfl,hpm,HH.out,HP.out,HU.out,fun _=>Iff.rfl,Aft.refl _ _⟩
 case round =>
  obtain ⟨p,R',S',rfl,hpm,hw,hp,hu,hk,ha⟩:=hrel;have hlr:=hw.lr;by_cases h0:p=0;{subst h0;have HW:=Zh hw;have HO:=Zh (hu.done (.inl rfl));have HQ:=Zh hp;have HK:=Zh hk;have HA:=Zh ha;clear hw hp hu hk ha;(go_wp2_with fail);go_end0;exact ⟨rfl,R',S',HW.out,HQ.out,HO.out,HK.out,HA.out⟩}
  · (have i1:0<(p:Int):=by omega);obtain ⟨a,x,ka,kb,kc,kd⟩:=hp.key (i:=p) (by omega);obtain ⟨b,y,la,lb,lc,ld⟩:=hp.key (i:=(p-1) / 2) (by omega);have HAH:=Zh (fun V (hV:Qbk V G g (some ⟨gr,0,none⟩) gc gs n m c R' C S')=>Qml V hV ka la kc lc lb);have HST:=Zh (fun hc=>up_step hp (by rw [hlr];exact hu) (by omega) (by omega) hc);have HDN:=Zh (fun hc=>hu.done (.inr hc));have HSW:=Zh (fun V (hV:Qbk V G g (some ⟨gr,0,none⟩) gc gs n m c R' C S')=>Qkj V hV ka la kb lb);have HQ:=Zh hp;have HK:=Zh hk;have HW:=Zh hw;have HA:=Zh ha;have HKM:=Zh (Qqb (r:=R') (i:=p) (j:=(p-1) / 2) (by omega) (by omega));have HLT:=Zh hw.lt;clear hw hp hu hk ha ka kb kc la lb lc;(go_wp2_with fail);rw [show ((p:Int)-1) / 2=(((p-1) / 2:Nat):Int) by omega];(with_reducible refine (HAH.out _ HW.out).mono ?_);rintro e w' ⟨rfl,hb⟩;have hw':=HW.out.keep hb;have HW':=Zh hw';have HA':=Zh (HA.out.trans (Aft.below hb HLT.out));clear hw' hb HW HA HAH
    cases hah:hAh x y a b with
    | false =>have HO:=Zh (HDN.out (by rw [kd,ld];exact hAh_f hah));(go_wp2_with fail);go_end0;exact ⟨rfl,R',S',HW'.out,HQ.out,HO.out,HK.out,HA'.out⟩
    | true =>have HS':=Zh (HST.out (by rw [kd,ld];exact hAh_t hah));(go_wp2_with fail);rw [show ((p:Int)-1) / 2=(((p-1) / 2:Nat):Int) by omega];(with_reducible refine (HSW.out _ HW'.out).mono ?_);rintro e w'' ⟨rfl,hw2,ha2⟩;have HW2:=Zh hw2;have HA2:=Zh (HA'.out.trans ha2);clear hw2 ha2 HW' HA' HSW;(go_wp2_with fail);go_roundw;(case rel=>exact ⟨(p-1) / 2,_,_,by rw [show ((p:Int)-1) / 2=(((p-1) / 2:Nat):Int) by omega],by omega,HW2.out,HS'.out.1,by have:=HS'.out.2;rw [Qfr,hlr] at this;exact this,fun k=>(HKM.out k).trans (HK.out k),HA2.out⟩);case measure=>simp [intOf];omega
set_option maxHeartbeats 2000000 in
theorem Qxf (w:World) (h:Qbk w G g (some ⟨gr,0,none⟩) gc gs n m c R C S) (hp:HpS n R C S) (hd:Qhp (at_ R C) m 0) :
 Calls prog 151 #[.pointer (some ⟨g,0,none⟩),.int .i64 0] w fun e w'=>e=.returned (.tuple #[])∧∃ R' S',Qbk w' G g (some ⟨gr,0,none⟩) gc gs n m c R' C S'∧HpS n R' C S'∧Ord (at_ R' C) m∧(∀ k,k∈R'↔k∈R)∧Aft G w w':=by
 have hcap:=h.cap;have hmn:m≤n:=by rw [←h.lr];exact hp.le
 have hn0:=h.n0;have HH:=Zh h;have HP:=Zh hp;have HD:=Zh hd;clear h hp hd;go_enter func151,ntmps151
 go_wp2_with fail
 go_loopw [1] (fun q W=>∃ (p:Nat) (R' S':List Nat),q=.int .i64 p∧(p<m∨p=0)∧Qbk W G g (some ⟨gr,0,none⟩) gc gs n m c R' C S'∧HpS n R' C S'∧Qhp (at_ R' C) m p∧(∀ k,k∈R'↔k∈R)∧Aft G w W) (fun q _=>m-(intOf q).toNat)
 case atStart=>exact ⟨0,R,S,rfl,.inr rfl,HH.out,HP.out,HD.out,fun _=>Iff.rfl,Aft.refl _ _⟩
 case round =>
  obtain ⟨p,R',S',rfl,hpm,hw,hp,hd,hk,ha⟩:=hrel;have hlr:=hw.lr;have HQ:=Zh hp;have HDD:=Zh hd;have HK:=Zh hk;have HA:=Zh ha;have HW:=Zh hw;clear hw hp hd hk ha;go_wp2_with fail
  go_loopw [4,5] (fun x y W=>Below wr.heap.size wr W∧∃ l j:Nat,x=.int .i64 l∧y=.int .i64 j∧2*p+1≤j∧j≤2*p+3∧(l=p∨(2*p+1≤l∧l<j∧l<m))∧at_ R' C l≤at_ R' C p∧∀ i,2*p+1≤i→i<j→i<m→at_ R' C l≤at_ R' C i) (fun _ y _=>2*p+3-(intOf y).toNat)
  case atStart=>exact ⟨Zr _ _,p,2*p+1,rfl,by go_num,by omega,by omega,.inl rfl,Int.le_refl _,fun i h1 h2=>by omega⟩
  case round =>
   obtain ⟨hb,l,j,rfl,rfl,h1,h2,h3,h4,h5⟩:=hrel;have HB:=Zh hb;have hwV:=HW.out.keep hb;have f0:=hwV.f0;by_cases hj:j≤2*p+2∧j<m
   · obtain ⟨hj2,hjm⟩:=hj;(have i1:(j:Int)≤2*p+2:=by omega);(have i2:(j:Int)<m:=by omega);obtain ⟨a,x,ka,kb,kc,kd⟩:=HQ.out.key (i:=j) (by omega);obtain ⟨b,y,la,lb,lc,ld⟩:=HQ.out.key (i:=l) (by omega);have HAH:=Zh (Qml _ hwV ka la kc lc lb);have H4:=Zh h4;have H5:=Zh h5;clear hb hwV ka kb kc la lb lc h4 h5;(go_wp2_with fail);(with_reducible refine HAH.out.mono ?_);rintro e w' ⟨rfl,hb'⟩;have HB':=Zh (HB.out.trans (hb'.mono HB.out.size));clear hb' HB HAH
     cases hah:hAh x y a b with
     | false =>have hle:=hAh_f hah;(go_wp2_with fail);go_roundw;(case rel =>refine ⟨HB'.out,l,j+1,rfl,by go_num,by omega,by omega,by omega,H4.out,fun i g1 g2 g3=>?_⟩;by_cases e:i=j;{subst e;rw [kd,ld];exact hle};{exact H5.out i g1 (by omega) g3});case measure=>simp [intOf];omega
     | true =>have hle:=hAh_t hah;(go_wp2_with fail);go_roundw;(case rel =>refine ⟨HB'.out,j,j+1,rfl,by go_num,by omega,by omega,by omega,?_,fun i g1 g2 g3=>?_⟩;{have:=H4.out;omega};{by_cases e:i=j;{subst e;exact Int.le_refl _};{have:=H5.out i g1 (by omega) g3;omega}});case measure=>simp [intOf];omega
   {have HDN:=Zh (show ∀ i,0<i→i<m→(i-1) / 2=p→at_ R' C l≤at_ R' C i from fun i g1 g2 g3=>h5 i (by omega) (by omega) g2);(have HW':=Zh hwV;have HA':=Zh (HA.out.trans (Aft.below HB.out HW.out.lt));have HX:((2*(p:Int)+2<(j:Int))∨((j:Int)≤2*p+2∧(m:Int)≤j)):=by omega);clear hb hwV h5 HB HW HA;by_cases hlp:l=p;{subst hlp;have HO:=Zh (HDD.out.done HDN.out);(rcases HX with hx|⟨hx,hy⟩);{(have e1:decide ((j:Int)≤2*l+2)=false:=by simp;omega);exact Kca};{(have e1:decide ((j:Int)<m)=false:=by simp;omega);exact Kca}};{obtain ⟨a,x,ka,kb,kc,kd⟩:=HQ.out.key (i:=p) (by omega);(obtain ⟨b,y,la,lb,lc,ld⟩:=HQ.out.key (i:=l) (by omega);have HSW:=Zh (Qkj _ HW'.out ka la kb lb);have HST:=Zh (Qxa HQ.out (p:=p) (m:=l) (by rw [hlr];exact HDD.out) (by omega) (by omega) (by omega) h4 (by rw [hlr];exact HDN.out));have HKM:=Zh (Qqb (r:=R') (i:=p) (j:=l) (by omega) (by omega));have hlp':¬(l:Int)=p:=by omega);clear ka kb kc la lb lc;(rcases HX with hx|⟨hx,hy⟩);{(have e1:decide ((j:Int)≤2*p+2)=false:=by simp;omega);exact Kau};{(have e1:decide ((j:Int)<m)=false:=by simp;omega);exact Kau}}}
end
theorem hp1_one (x:Int):∀ u∈[Value.int .i64 x],u.oneCell'=true:=Qao [x]
section
variable {G:Nat→Prop} {g gc gs n m c:Nat} {A:Option Addr} {R:List Nat} {C:List Int} {S:List Nat}
def Qck (W:World)(G:Nat→Prop)(g n:Nat)(hp:Nat→Option Int):Prop :=
 ∃ (A:Option Addr) (gc gs m c:Nat) (R:List Nat) (C:List Int) (S:List Nat),Qbk W G g A gc gs n m c R C S∧HpS n R C S∧Ord (at_ R C) m∧∀ k,hp k=Qrj R C k
theorem Qnm (w:World)(h:Qbk w G g A gc gs n m c R C S)(k:Nat)(hk:k<n) :
 Calls prog 148 #[.pointer (some ⟨g,0,none⟩),.int .i64 k] w fun e w'=>e=.returned (.bool true)∧w=w':=by
 have f2:=h.f2;have i1:0≤(k:Int):=by omega
 have i2:(k:Int)<n:=by omega
 clear h;go_enter func148,ntmps148
 exact Kcq
theorem Qdn (w:World)(x:Int)(h0:0≤x)(h1:x≤1152921504606846976) :
 Calls prog 131 #[.int .i64 x] w fun e w'=>e=.returned (.int .i64 x)∧w=w':=by
 have e1:decide (x<0)=false:=by simp;omega
 have e2:decide (1152921504606846976<x)=false:=by simp;omega
 go_enter func131,ntmps131
 exact Kcq
theorem Qbk.push {W w':World}{G:Nat→Prop}{g gc gs n m c c' k:Nat}{A A':Option Addr}{R:List Nat}{C:List Int}{S:List Nat}{o:Obj}(h:Qbk W G g A gc gs n m c R C S)
 (hown:Own w' 0 3 1 A' (m+1) c' (Qag (nis R) ++[.int .i64 (k:Int)])) (hg:(W.alloc o).grownBy w' (Qab A)) (hA:Qab A'=Qab A∨Qab A'=some (W.alloc o).heap.size) :
 Qbk (w'.setCell ⟨g,0,none⟩ (.slice A' (m+1) c')) G g A' gc gs n (m+1) c' (R ++[k]) C S∧Aft G W (w'.setCell ⟨g,0,none⟩ (.slice A' (m+1) c')):=by
 have hbl:Below W.heap.size W (W.alloc o):=(Zr _ _).alloc (Zn _) _;have hz:(W.alloc o).heap.size=W.heap.size+1:=by simp
 have k1:=h.keep hbl
 have hdA:∀ b,Qab A'=some b→b≠g∧b≠gc∧b≠gs∧¬G b:=fun b hb=>by
  rcases hA with e|e
  {exact h.dA b (e.symm.trans hb)};{rw [hb] at e;(injection e with e);have l1:=h.blk.lt;have l2:=h.cs.lt;have l3:=h.ss.lt;exact ⟨by omega,by omega,by omega,fun hG=>by have:=h.lt b hG;omega⟩}
 have hne:∀ b,(b=g∨b=gc∨b=gs∨G b)→Qab A≠some b:=fun b hb e=>by
  obtain ⟨d1,d2,d3,d4⟩:=h.dA b e;rcases hb with rfl|rfl|rfl|hb
  {exact d1 rfl};{exact d2 rfl};{exact d3 rfl};{exact d4 hb}
 have hb1:Blk w' g 258 #[.slice A m c,.slice (some ⟨gc,0,none⟩) n n,.slice (some ⟨gs,0,none⟩) n n]:=k1.blk.grown hg (hne g (.inl rfl));refine ⟨⟨?_,?_,(k1.cs.grown hg (hne gc (.inr (.inl rfl)))).far_ (fun e=>h.dg.1 e.symm) _,(k1.ss.grown hg (hne gs (.inr (.inr (.inl rfl))))).far_ (fun e=>h.dg.2.1 e.symm) _,hdA,h.dg,h.dG,fun b hb=>?_,by simp [h.lr],h.lc,h.ls,h.n0⟩,?_⟩;{exact hb1.set_ 0 _};{have:=hown.far (Qad w' g 0 (.slice A' (m+1) c')) (.inr fun e=>(hdA g e).1 rfl);rw [Qfy,Qbg];exact this};{have:=h.lt b hb;have h2:=hg.size;simp only [World.setCell,Array.size_modify];omega}
 · refine Aft.set ⟨?_,?_,fun B hB=>?_⟩ h.dG.1 _;{exact (Qaz.below (G:=G) hbl).trans (Qaz.grown hg (fun b hb=>hne b (.inr (.inr (.inr hb))))) hbl.size};{have h2:=hg.size;omega}
   · have hBz:B≤W.heap.size:=by{(rcases Nat.lt_or_ge W.heap.size B with hl|hl);{exact absurd (h.lt _ (hB _ hl)) (by omega)};{exact hl}}
     exact (hbl.mono hBz).trans (Below.grown (Zr _ _) hg (by omega) (fun b hb=>by
      rcases Nat.lt_or_ge b B with hl|hl
      · exact absurd hb (hne b (.inr (.inr (.inr (hB b hl)))))
      · exact hl))
set_option maxHeartbeats 2000000 in
theorem Qxg (w:World)(h:Qbk w G g A gc gs n m c R C S)(hp:HpS n R C S) (ho:Ord (at_ R C) m) (k:Nat) (hk:k<n) (hn:k ∉ R) (x:Int) (h0:0≤x) (h1:x≤1152921504606846976) :
 Calls prog 101 #[.pointer (some ⟨g,0,none⟩),.int .i64 k,.int .i64 x] w fun e w'=>e=.returned (.bool true)∧(∃ (A':Option Addr) (c':Nat) (R' S':List Nat),Qbk w' G g A' gc gs n (m+1) c' R' (C.set k x) S'∧HpS n R' (C.set k x) S'∧Ord (at_ R' (C.set k x)) (m+1)∧∀ q,q∈R'↔q∈R∨q=k)∧Aft G w w':=by
 have hlr:=h.lr;have hn0:=h.n0;have hmn:m≤n:=by rw [←h.lr];exact hp.le
 have f0:=h.f0;have f2:=h.f2;have s0:w.cell? ⟨gs,k,none⟩=some (.int .i64 0):=h.seatAt ((hp.out hk).2 hn);have i1:0≤(k:Int):=by omega
 have i2:(k:Int)<n:=by omega
 have HK:=Zh (Qnm w h k hk);have HE:=Zh (Qdn w x h0 h1);have hbel:Below w.heap.size w (w.alloc (.cells #[.int .i64 (k:Int)] 3)):=(Zr _ _).alloc (Zn _) _;have hal:=h.keep hbel;have hrow:=hal.row;have g0:=hal.f0;have g2:=hal.f2;have hrd:=(Blk.new w 3 #[.int .i64 (k:Int)]).rds (s:=1) (m:=1) rfl;have HPU:=Zh (hp.put (x:=x) hk hn);have HOU:=Zh (ord_put (x:=x) (by rw [h.lr];exact ho) hn);have HH:=Zh h;have hzz:(w.alloc (.cells #[.int .i64 (k:Int)] 3)).frozen? ⟨g,0,none⟩=false:=hal.blk.frozen 0;clear h hp ho hal;go_enter func101,ntmps101
 go_wp2_with fail
 with_reducible refine HK.out.mono ?_
 rintro e w' ⟨rfl,rfl⟩;go_wp2_with fail
 with_reducible refine HE.out.mono ?_
 rintro e w' ⟨rfl,rfl⟩;clear HK HE;go_wp2_with (at_builtin;with_reducible refine Qal rfl (.tmp 26) (.tmp 28) 61 rfl 3 _ 1 8 Qbo underlying61 rfl (by omega) rfl rfl hrow hrd (hp1_one _) (by omega) (by omega) (by simp) ?_)
 intro A' c' w' hown' hg hA;have hb1:Blk w' g 258 #[.slice A m c,.slice (some ⟨gc,0,none⟩) n n,.slice (some ⟨gs,0,none⟩) n n]:=(HH.out.keep hbel).blk.grown hg (fun e=>(HH.out.dA g e).1 rfl);have k0:w'.cell? ⟨g,0,none⟩=some (.slice A m c):=Zq hb1;have kf:w'.frozen? ⟨g,0,none⟩=false:=hb1.frozen 0;obtain ⟨hh1,ha1⟩:=HH.out.push hown' hg (by simpa using hA);have HH1:=Zh hh1;have HA1:=Zh ha1;clear hb1 hh1 ha1 hown' hg hA hrow hrd hbel g0 g2 hzz HH f0 f2 s0;go_wp2_with fail
 obtain ⟨W1,hW1⟩:=Zx (w'.setCell ⟨g,0,none⟩ (.slice A' (m+1) c'));rw [←hW1] at HH1 HA1;rw [←hW1];clear k0 kf hW1;have f0:=HH1.out.f0;have f2:=HH1.out.f2;have hcap:=HH1.out.cap;have s0:=HH1.out.seatAt (i:=k) (Qbq 0 (by rw [HH1.out.ls];exact hk));have fz:W1.frozen? ⟨gs,k,none⟩=false:=HH1.out.ss.frozen k;have hh2:=(HH1.out.setS (i:=k) (k:=m+1)).drew;have HH2:=Zh hh2;have HA2:=Zh ((HA1.out.set HH1.out.dG.2.2 (i:=k) (.int .i64 ((m+1:Nat):Int))).drew);clear hh2;refine Qbj 11 (S:=fun V=>V.cell? ⟨g,0,none⟩=some (.slice A' (m+1) c')∧V.cell? ⟨g,2,none⟩=some (.slice (some ⟨gs,0,none⟩) n n)) (by kernel_rfl) ⟨f0,f2⟩ (fun _=>?_);refine tkF 0 32 (h:=⟨_,tv,?_⟩);simp only [pE,List.set];refine tkF 1 33 (h:=⟨_,tv,?_⟩);simp only [pE,List.set];refine tkF 2 34 (h:=⟨_,tv,?_⟩);simp only [pE,List.set];refine tkK 3 35 (h:=⟨_,tv,?_⟩);simp only [pE,List.set];refine tkF 4 36 (h:=⟨_,tv,?_⟩);simp only [pE,List.set];refine tkF 5 37 (h:=⟨_,tv,?_⟩);simp only [pE,List.set];refine tkF 6 38 (h:=⟨_,tv,?_⟩);simp only [pE,List.set];refine tkF 7 39 (h:=⟨_,tv,?_⟩);simp only [pE,List.set];refine tkK 8 40 (h:=⟨_,tv,?_⟩);simp only [pE,List.set];refine tkF 9 41 (h:=⟨_,tv,?_⟩);simp only [pE,List.set];refine tkF 10 42 (h:=⟨_,tv,?_⟩);simp only [pE,List.set];refine Qbt (k:=11) (by kernel_rfl) rfl (fun K hK=>?_);go_simp;refine hK.out _ _ ?_;clear hK K;refine Qbp (by kernel_rfl) ?_ _;have e2:((m+1:Nat):Int)=(m:Int)+1:=by omega
 rw [e2] at HH2 HA2;have HSK:=Zh (show (S.set k (m+1))[k]?=some (m+1) by rw [Yg (by have:=HH1.out.ls;omega)]);rw [hlr] at HPU HOU;clear f0 f2 s0 fz HH1 HA1 e2;obtain ⟨W2,hW2⟩:=Zx ((W1.setCell ⟨gs,k,none⟩ (.int .i64 ((m:Int)+1))).drew);rw [←hW2] at HH2 HA2;rw [←hW2];clear hW2;obtain ⟨gr,hgr,hfr⟩:=HH2.out.rowBlk (by omega);subst hgr;have f1:=HH2.out.f1;have q0:=HH2.out.costAt (i:=k) (Qbq 0 (by rw [HH2.out.lc];exact hk));have z1:W2.frozen? ⟨gc,k,none⟩=false:=HH2.out.cs.frozen k;have hh3:=HH2.out.setC (i:=k) (x:=x);have HH3:=Zh hh3;have HA3:=Zh (HA2.out.set HH2.out.dG.2.1 (i:=k) (.int .i64 x));have f2:=hh3.f2;have s2:=hh3.seatAt HSK.out;have e7:IntKind.i64.wrap (((m+1:Nat):Int)-1)=(m:Int):=by rw [show ((m+1:Nat):Int)-1=(m:Int) by omega];exact IntWalk.i64_in _ (by omega)
 have HUP:=Zh (Qxh _ hh3 HPU.out m (by omega) HOU.out);clear hh3;go_wp2_with fail
 with_reducible refine HUP.out.mono ?_
 rintro e w3 ⟨rfl,R',S',hw3,hp3,ho3,hk3,ha3⟩;have HW4:=Zh hw3;have HA4:=Zh (HA3.out.trans ha3);have HP4:=Zh hp3;have HO4:=Zh ho3;have HK4:=Zh hk3;clear hw3 ha3 hp3 ho3 hk3;go_wp2_with fail
 go_ret;exact ⟨rfl,⟨_,_,R',S',HW4.out,HP4.out,HO4.out,fun q=>by rw [HK4.out q];simp⟩,HA4.out⟩
set_option maxHeartbeats 2000000 in
theorem Quw (w:World)(h:Qbk w G g A gc gs n m c R C S)(hp:HpS n R C S)(k i:Nat)(hk:k<n) (hi:R[i]?=some k) (x y:Int) (h0:0≤x) (h1:x≤1152921504606846976) (hy:C[k]?=some y) (hxy:y≤x) :
 Calls prog 101 #[.pointer (some ⟨g,0,none⟩),.int .i64 k,.int .i64 x] w fun e w'=>e=.returned (.bool false)∧w=w':=by
 have hn0:=h.n0;have f2:=h.f2;have f1:=h.f1;have e8:((i+1:Nat):Int)≠0:=by omega
 have s0:w.cell? ⟨gs,k,none⟩=some (.int .i64 ((i+1:Nat):Int)):=h.seatAt (hp.seat i k hi).2;have q0:=h.costAt hy;have i1:0≤(k:Int):=by omega
 have i2:(k:Int)<n:=by omega
 have HK:=Zh (Qnm w h k hk);have HE:=Zh (Qdn w x h0 h1);clear h hp;go_enter func101,ntmps101
 go_wp2_with fail
 with_reducible refine HK.out.mono ?_
 rintro e w' ⟨rfl,rfl⟩;go_wp2_with fail
 with_reducible refine HE.out.mono ?_
 rintro e w' ⟨rfl,rfl⟩;clear HK HE;exact Kcq
set_option maxHeartbeats 2000000 in
theorem Quv (w:World)(h:Qbk w G g A gc gs n m c R C S)(hp:HpS n R C S) (ho:Ord (at_ R C) m) (k i:Nat) (hk:k<n) (hi:R[i]?=some k) (x y:Int) (h0:0≤x) (h1:x≤1152921504606846976) (hy:C[k]?=some y) (hxy:x<y) :
 Calls prog 101 #[.pointer (some ⟨g,0,none⟩),.int .i64 k,.int .i64 x] w fun e w'=>e=.returned (.bool true)∧(∃ (A':Option Addr) (c':Nat) (R' S':List Nat),Qbk w' G g A' gc gs n m c' R' (C.set k x) S'∧HpS n R' (C.set k x) S'∧Ord (at_ R' (C.set k x)) m∧∀ q,q∈R'↔q∈R)∧Aft G w w':=by
 have hlr:=h.lr;have hil:=(Zs hi).1;have hmn:m≤n:=by rw [←h.lr];exact hp.le
 have hat:at_ R C i=y:=by unfold at_;rw [Qcp hi];exact Qcp hy
 have hn0:=h.n0;have f2:=h.f2;have f1:=h.f1;have e8:((i+1:Nat):Int)≠0:=by omega
 have s0:w.cell? ⟨gs,k,none⟩=some (.int .i64 ((i+1:Nat):Int)):=h.seatAt (hp.seat i k hi).2;have q0:=h.costAt hy;have i1:0≤(k:Int):=by omega
 have i2:(k:Int)<n:=by omega
 have HK:=Zh (Qnm w h k hk);have HE:=Zh (Qdn w x h0 h1);have HSK:=Zh (hp.seat i k hi).2;have HPU:=Zh (hp.setC (k:=k) (x:=x));have HOU:=Zh (ord_less (x:=x) hp (by rw [h.lr];exact ho) hi (by omega));have HH2:=Zh h;have HA2:=Zh (Aft.refl G w);have hcap:=h.cap;rw [hlr] at HOU;clear h hp ho;clear f1 f2 s0 q0;have s0:w.cell? ⟨gs,k,none⟩=some (.int .i64 ((i+1:Nat):Int)):=HH2.out.seatAt HSK.out;have g2:=HH2.out.f2;obtain ⟨gr,hgr,hfr⟩:=HH2.out.rowBlk (by omega);subst hgr;have f1:=HH2.out.f1;have q0:=HH2.out.costAt (i:=k) (Qbq 0 (by rw [HH2.out.lc];exact hk));have z1:w.frozen? ⟨gc,k,none⟩=false:=HH2.out.cs.frozen k;have hh3:=HH2.out.setC (i:=k) (x:=x);have HH3:=Zh hh3;have HA3:=Zh (HA2.out.set HH2.out.dG.2.1 (i:=k) (.int .i64 x));have f2:=hh3.f2;have s2:=hh3.seatAt HSK.out;have e7:IntKind.i64.wrap (((i+1:Nat):Int)-1)=(i:Int):=by rw [show ((i+1:Nat):Int)-1=(i:Int) by omega];exact IntWalk.i64_in _ (by omega)
 have HUP:=Zh (Qxh _ hh3 HPU.out i (by omega) HOU.out);clear hh3;have q1:y=C.getD k 0:=(Qcp hy).symm;rw [←q1] at q0;clear q1;go_enter func101,ntmps101
 go_wp2_with fail
 with_reducible refine HK.out.mono ?_
 rintro e w' ⟨rfl,rfl⟩;go_wp2_with fail
 with_reducible refine HE.out.mono ?_
 rintro e w' ⟨rfl,rfl⟩;clear HK HE;go_wp2_with fail
 with_reducible refine HUP.out.mono ?_
 rintro e w3 ⟨rfl,R',S',hw3,hp3,ho3,hk3,ha3⟩;have HW4:=Zh hw3;have HA4:=Zh (HA3.out.trans ha3);have HP4:=Zh hp3;have HO4:=Zh ho3;have HK4:=Zh hk3;clear hw3 ha3 hp3 ho3 hk3;go_wp2_with fail
 go_ret;exact ⟨rfl,⟨_,_,R',S',HW4.out,HP4.out,HO4.out,HK4.out⟩,HA4.out⟩
theorem Qfx (w:World)(hp:Nat→Option Int)(h:Qck w G g n hp)(k:Nat)(hk:k<n)(x:Int)(h0:0≤x)(h1:x≤1152921504606846976) :
 Calls prog 101 #[.pointer (some ⟨g,0,none⟩),.int .i64 k,.int .i64 x] w fun e w'=>e=.returned (.bool (Qlv hp k x))∧Qck w' G g n (Qfg hp k x)∧Aft G w w':=by
 obtain ⟨A,gc,gs,m,c,R,C,S,hw,hs,ho,hin⟩:=h;have hkc:k<C.length:=by rw [hs.lc];exact hk
 cases hv:hp k with
 | none =>have hn:k ∉ R:=inAt_out hs ((hin k).symm.trans hv);refine (Qxg w hw hs ho k hk hn x h0 h1).mono ?_;rintro e w' ⟨rfl,⟨A',c',R',S',k1,k2,k3,k4⟩,ha⟩;refine ⟨by simp [Qlv,hv],⟨A',gc,gs,m+1,c',R',_,S',k1,k2,k3,fun q=>?_⟩,ha⟩;rw [Qsz hkc k4];unfold Qfg;by_cases e:q=k;{rw [if_pos e,if_pos e,hv]};{rw [if_neg e,if_neg e];exact hin q}
 | some y =>obtain ⟨hm,hy⟩:=Qxm ((hin k).symm.trans hv);obtain ⟨i,hi,_,_,_⟩:=hs.in_ hm;by_cases hxy:y≤x;{refine (Quw w hw hs k i hk hi x y h0 h1 hy hxy).mono ?_;rintro e w' ⟨rfl,rfl⟩;refine ⟨by simp [Qlv,hv,hxy],⟨A,gc,gs,m,c,R,C,S,hw,hs,ho,fun q=>?_⟩,Aft.refl _ _⟩;unfold Qfg;by_cases e:q=k;{rw [if_pos e,hv,e,←hin k,hv];simp [hxy]};{rw [if_neg e];exact hin q}};{refine (Quv w hw hs ho k i hk hi x y h0 h1 hy (by omega)).mono ?_;rintro e w' ⟨rfl,⟨A',c',R',S',k1,k2,k3,k4⟩,ha⟩;refine ⟨by simp [Qlv,hv];omega,⟨A',gc,gs,m,c',R',_,S',k1,k2,k3,fun q=>?_⟩,ha⟩;rw [Qsz hkc (r:=R) (fun q=>by rw [k4 q];exact ⟨.inl,fun h=>h.elim id (fun e=>e▸hm)⟩)];unfold Qfg;by_cases e:q=k;{rw [if_pos e,if_pos e,hv];simp [hxy]};{rw [if_neg e,if_neg e];exact hin q}}
end
set_option maxHeartbeats 1000000 in
theorem Qzm (A:Option Addr)(n c:Nat)(t:Qft)(i o:Nat)(w:World)(h:RdI w A n t.costs)(ht:Qom t) (hi:(i:Int)<t.ins) (ho:(o:Int)<t.outs) :
 Calls prog 132 #[.agg #[.int .i64 t.ins,.int .i64 t.outs,.slice A n c],.int .i64 i,.int .i64 o] w fun e w'=>∃ x,t.costs[i*t.outs.toNat+o]?=some x∧e=.returned (.int .i64 x)∧Below w.heap.size w w':=by
 obtain ⟨p,q,cs⟩:=t;simp only at h hi ho ⊢;have i0:0≤p:=ht.i0;have i16:p≤16:=ht.i16;have o0:0≤q:=ht.o0;have o16:q≤16:=ht.o16;have hm:=Qpp i0 i16 o0 o16;have hl:(cs.length:Int)=p*q:=ht.len;have hk:(i:Int)*q+o<p*q:=by{exact Kcm};have hk0:0≤(i:Int)*q:=Int.mul_nonneg (by omega) o0;obtain ⟨k,hkk⟩:∃ k:Nat,(k:Int)=i*q+o:=⟨((i:Int)*q+o).toNat,by omega⟩;have hke:i*q.toNat+o=k:=by{exact Kcr};rw [hke];have hkl:k<n:=by rw [←h.1];omega
 obtain ⟨b,oo,x,hA,hx,hc⟩:=h.at_ hkl;subst hA;have hn:n≤256:=by rw [←h.1];omega
 have HSD:=Zh (fun V=>Qtu p q V i0 i16 o0 o16);have e1:IntKind.i64.wrap ((i:Int)*q)=(i:Int)*q:=IntWalk.i64_in _ (by omega);have e2:IntKind.i64.wrap ((i:Int)*q+o)=(k:Int):=by rw [←hkk];exact IntWalk.i64_in _ (by omega)
 have i1:((k:Int))<(n:Int):=by omega
 have HX:=Zh hx;have g1:decide ((i:Int)<0)=false:=by simp
 have g2:decide (p≤(i:Int))=false:=by simp;omega
 have g3:decide ((o:Int)<0)=false:=by simp
 have g4:decide (q≤(o:Int))=false:=by simp;omega
 clear h ht hl hk hkk hke hx hm hk0;go_enter func132,ntmps132
 have hcA:∀ ob,(w.alloc ob).cell? ⟨b,oo+k,none⟩=some (.int .i64 x):=fun ob=>Zc ((Zr _ w).alloc (Zn _) ob) (Zn _) hc
 go_wp2_with fail
 with_reducible refine (HSD.out _).mono ?_
 rintro e w' ⟨rfl,rfl⟩;go_wp2_with fail
 go_ret;exact ⟨x,HX.out,rfl,Qah⟩
theorem gVert_ok (g v:Nat)(N:Qam)(w:World)(h:Qfh w g N)(hv:v<N.vs.length):Calls prog 186 #[.pointer (some ⟨g,0,none⟩),.int .i64 v] w fun e w'=>e=.returned (.bool true)∧w=w':=by
 obtain ⟨A,B,C,I,O,P,n,m,k,c,d,e,ci,co,cp,h⟩:=h;have hn0:=h.n0;have hnn:N.vs.length=n:=h.net.1.1;have hlv:=h.ok.lv;have i1:0≤(v:Int):=by omega
 have i2:(v:Int)<n:=by omega
 clear h;go_enter func186,ntmps186
 go_wp2;exact Kat
theorem Qnk (g v:Nat)(N:Qam)(w:World)(h:Qfh w g N)(hv:v<N.vs.length):Calls prog 153 #[.pointer (some ⟨g,0,none⟩),.int .i64 v] w fun e w'=>∃ A n c,e=.returned (.slice A n c)∧Own w' w.heap.size 3 1 A n c (Qag (idx (·.1) N.ar (v:Int)))∧Below w.heap.size w w':=by
 obtain ⟨A,B,C,I,O,P,n,m,k,c,d,e,ci,co,cp,h⟩:=h;have hn1:=h.n0;have hn4:=h.n4;have hlv:=h.ok.lv;have hnn:N.vs.length=n:=h.net.1.1;obtain ⟨b,o,A',n',c',l,hO,hl,h1,h2,h3,h4⟩:=h.outs.at_ (i:=v) (by omega);rw [Qdq (by omega)] at hl;cases hl;subst hO;have hn':n'≤16384:=by{rw [←h2.1];have:=Qeq (·.1) N.ar N.ar.length (v:Int);rw [List.take_length] at this;have:=h.ok.la;omega};have HC:=Zh (Qik A' n' c' _ w h2.rds (Qao _) (by omega));have HV:=Zh (gVert_ok g v N w ⟨_,_,_,_,_,_,_,_,_,_,_,_,_,_,_,h⟩ hv);have i1:0≤(v:Int):=by omega
 have i2:(v:Int)<n:=by omega
 clear h h2;go_enter func153,ntmps153
 go_wp2_with fail
 with_reducible refine HV.out.mono ?_
 rintro e w' ⟨rfl,rfl⟩;go_wp2_with fail
 with_reducible refine HC.out.mono ?_
 rintro e w' ⟨A2,c2,rfl,ho,hb⟩;have HO:=Zh ho;have HB:=Zh hb;clear ho hb;go_wp2_with fail
 go_ret;exact ⟨_,_,_,rfl,HO.out,HB.out⟩
def Qai (N:Qam)(a b:Nat):Int :=
 match N.ar[a]?,N.ar[b]? with
 | some x,some y=>if x.2.1=y.1 then (match N.vs[x.2.1.toNat]? with
  | some v=>(match N.ts[v.2.2.toNat]? with
   | some t=>t.costs.getD ((Qha N.ar a x).1.toNat*t.outs.toNat+(Qha N.ar b y).2.toNat) 1152921504606846976
   | none=>1152921504606846976)
  | none=>1152921504606846976) else 1152921504606846976
 | _,_=>1152921504606846976
theorem Qgx {f:Tri→Int}{l:List Tri}{k:Nat}{a:Tri}{v:Int} (h:l[k]?=some a) (hv:f a=v):(idx f (l.take k) v).length<l.countP (fun x=>f x == v):=by rw [Qxk];have h1:(l.take (k+1)).countP (fun x=>f x == v)=(l.take k).countP (fun x=>f x == v)+1:=by{rw [List.take_add_one,h,List.countP_append];simp [hv]};have h2:=(List.take_sublist (k+1) l).countP_le (p:=fun x=>f x == v);omega
set_option maxHeartbeats 2000000 in
theorem Qnl (g a b:Nat)(N:Qam)(x y:Tri)(w:World)(h:Qfh w g N) (hx:N.ar[a]?=some x) (hy:N.ar[b]?=some y) :
 Calls prog 82 #[.pointer (some ⟨g,0,none⟩),.int .i64 a,.int .i64 b] w fun e w'=>e=.returned (.int .i64 (Qai N a b))∧Below w.heap.size w w':=by
 have hla:=(Zs hx).1;have hlb:=(Zs hy).1;have HA:=Zh (fun V (hV:Below w.heap.size w V)=>Qki g N a V (h.below hV) (by omega) (by omega));have HB:=Zh (fun V (hV:Below w.heap.size w V)=>Qki g N b V (h.below hV) (by omega) (by omega));have hax:=(show Qap N from by obtain ⟨A,B,C,I,O,P,n,m,k,c,d,e,ci,co,cp,h⟩:=h;exact h.ok).arcs x (Zm hx);obtain ⟨A,B,C,I,O,P,n,m,k,c,d,e,ci,co,cp,h⟩:=h;have hm:=h.ok.arLe h.net.2.1.1;have hlm:N.ar.length=m:=h.net.2.1.1;have hln:N.vs.length=n:=h.net.1.1;have hn4:=h.ok.lv;obtain ⟨bb,o,x1,x2,x3,rfl,hx',ax,ay,az⟩:=h.net.2.1.at_ (i:=a) (by omega);rw [hx] at hx';cases hx';obtain ⟨bb',o',y1,y2,y3,e',hy',bx,by_,bz⟩:=h.net.2.1.at_ (i:=b) (by omega);cases e';rw [hy] at hy';cases hy';have n1:=h.n1;have i1:0≤(a:Int):=by omega
 have i2:(a:Int)<m:=by omega
 have i3:0≤(b:Int):=by omega
 have i4:(b:Int)<m:=by omega
 have HSX:=Zh (show ∀ V,Below w.heap.size w V→V.cell? ⟨g,1,none⟩=some (.slice (some ⟨bb,o,none⟩) m d)∧V.cell? ⟨bb,o+a*3+1,none⟩=some (.int .i64 x2)∧V.cell? ⟨bb,o+b*3,none⟩=some (.int .i64 y1) from
  fun V hV=>⟨Zc hV (Zn _) n1,Zc hV (Zn _) ay,Zc hV (Zn _) bx⟩)
 have hay:=h.ok.arcs _ (Zm hy);obtain ⟨v,rfl⟩:∃ v:Nat,x2=(v:Int):=⟨x2.toNat,by have:=hax.g0;simp only at this;omega⟩;have hvn:v<n:=by have:=hax.g1;simp only at this;omega
 obtain ⟨b2,o2,v1,v2,v3,hA2,hv,vx,vy,vz⟩:=h.net.1.at_ (i:=v) hvn;subst hA2;have hvo:=h.ok.verts _ (Zm hv);obtain ⟨t,rfl⟩:∃ t:Nat,v3=(t:Int):=⟨v3.toNat,by have:=hvo.t0;simp only at this;omega⟩;have htl:N.ts.length=k:=h.net.2.2.1;have htk:t<k:=by have:=hvo.t1;simp only at this;omega
 obtain ⟨b3,o3,tb,hA3,htb,t0,t1,AT,nT,cT,t2,hrd,hnT,hcT⟩:=h.net.2.2.at_ htk;subst hA3;have hto:=h.ok.tabs tb (Zm htb);have hk:=h.ok.lt;obtain ⟨b4,o4,pa1,pa2,hA4,hpa,pa,pb⟩:=h.plc.at_ (i:=a) (by omega);subst hA4;rw [Qnu hx] at hpa;obtain ⟨b4',o4',pb1,pb2,e4,hpb,qa,qb⟩:=h.plc.at_ (i:=b) (by omega);cases e4;rw [Qnu hy] at hpb;have n0:=h.n0;have n2:=h.n2;have n5:=h.n5;have hmt:=h.ok.meet v _ tb hv (by simpa using htb);obtain ⟨i,hi⟩:∃ i:Nat,i=(idx (·.2.1) (N.ar.take a) (v:Int)).length:=⟨_,rfl⟩;have hip:(i:Int)<tb.ins:=by rw [←hmt.1,hi];exact_mod_cast Qgx (f:=(·.2.1)) hx rfl
 have hpa1:pa1=(i:Int):=by simp only [Qha,Option.some.injEq,Prod.mk.injEq] at hpa;rw [hi];exact hpa.1.symm
 subst hpa1;obtain ⟨q,hq⟩:∃ q:Nat,q=(idx (·.1) (N.ar.take b) y1).length:=⟨_,rfl⟩;have hqp:y1=(v:Int)→(q:Int)<tb.outs:=fun e=>by rw [←hmt.2,hq,e];exact_mod_cast Qgx (f:=(·.1)) hy e
 have hpb2:pb2=(q:Int):=by simp only [Qha,Option.some.injEq,Prod.mk.injEq] at hpb;rw [hq];exact hpb.2.symm
 subst hpb2
 have HTN:=Zh (show ∀ z,y1=(v:Int)→tb.costs[i*tb.outs.toNat+q]?=some z→Qai N a b=z from fun z e hz=>by
  unfold Qai;rw [hx,hy];simp only [if_pos e.symm,Yl,hv,htb,Qha,←hi,←hq];rw [Ya,hz]
  rfl)
 have i5:0≤(v:Int):=by omega
 have i6:(v:Int)<n:=by omega
 have i7:0≤(t:Int):=by omega
 have i8:(t:Int)<k:=by omega
 have HTA:=Zh (fun V (hV:Below w.heap.size w V) (e:y1=(v:Int))=>Qzm AT nT cT tb i q V (hrd.below hV) hto hip (hqp e))
 have HY:=Zh (show ∀ V,Below w.heap.size w V→V.cell? ⟨g,0,none⟩=some (.slice (some ⟨b2,o2,none⟩) n c)∧V.cell? ⟨g,2,none⟩=some (.slice (some ⟨b3,o3,none⟩) k e)∧V.cell? ⟨g,5,none⟩=some (.slice (some ⟨b4,o4,none⟩) m cp) ∧
  V.cell? ⟨b2,o2+v*3,none⟩=some (.int .i64 v1)∧V.cell? ⟨b2,o2+v*3+1,none⟩=some (.int .i64 v2)∧V.cell? ⟨b2,o2+v*3+2,none⟩=some (.int .i64 t) ∧
  V.cell? ⟨b3,o3+t*3,none⟩=some (.int .i64 tb.ins)∧V.cell? ⟨b3,o3+t*3+1,none⟩=some (.int .i64 tb.outs)∧V.cell? ⟨b3,o3+t*3+2,none⟩=some (.slice AT nT cT) ∧
  V.cell? ⟨b4,o4+a*2,none⟩=some (.int .i64 i)∧V.cell? ⟨b4,o4+b*2+1,none⟩=some (.int .i64 q) from
  fun V hV=>⟨Zc hV (Zn _) n0,Zc hV (Zn _) n2,Zc hV (Zn _) n5,Zc hV (Zn _) vx,Zc hV (Zn _) vy,Zc hV (Zn _) vz,Zc hV (Zn _) t0,Zc hV (Zn _) t1,Zc hV (Zn _) t2,Zc hV (Zn _) pa,Zc hV (Zn _) qb⟩)
 clear n0 n2 n5 vx vy vz t0 t1 t2 pa pb qa qb hpa hpb hrd hip hqp hmt hv htb hi hq;clear h n1 ax ay az bx by_ bz;go_enter func82,ntmps82
 go_wp2_with fail
 refine wp_region_held_drew (S:=fun V=>Below w.heap.size w V) (by kernel_rfl) (Zr _ _).drew (fun _=>?_);refine tzb 0 8 ?_;refine Zk 2 (fun K hK=>?_);go_simp;with_reducible refine (HA.out _ Qah).mono ?_
 rintro e w' ⟨rfl,rfl⟩;go_simp;refine hK.out _ _ Qah (fun _=>?_);clear hK K;refine tzd 3 11 ?_;refine Zk 7 (fun K hK=>?_);go_simp;with_reducible refine (HB.out _ Qah).mono ?_
 rintro e w' ⟨rfl,rfl⟩;go_simp;refine hK.out _ _ Qah (fun _=>?_);clear hK K;refine tzd 8 16 ?_;refine tzd 12 20 ?_;refine tzd 16 24 ?_;refine tzd 20 28 ?_;refine tzd 24 32 ?_;refine tzb 28 36 ?_;refine tz 30 38 ?_;refine Zd ?_;by_cases hxy:(v:Int)=y1;{(have e1:((v:Int) != y1)=false:=by simp [hxy]);subst hxy;have HSX1:=HSX;clear HSX;have HSX:=Zh (fun V hV=>And.intro (HSX1.out V hV) (HY.out V hV));(go_wp2_with fail);(refine wp_region_held_drew (S:=fun V=>Below w.heap.size w V) (by kernel_rfl) (Zr _ _).drew.drew (fun _=>?_);refine tzd 0 39 ?_;refine tzd 4 43 ?_;refine tzd 8 47 ?_;refine tzd 12 51 ?_;refine Zk 16 (fun K hK=>?_);go_simp;refine hK.out _ _ Qah (fun _=>?_);clear hK K;refine Zk 17 (fun K hK=>?_);go_simp;refine hK.out _ _ Qah (fun _=>?_);clear hK K;refine Zd ?_;obtain ⟨W2,hW2⟩:=Zx ((w.alloc (.cells #[.int .i64 v1,.int .i64 v2,.int .i64 (t:Int)] 243)).drew.drew);have hb2:Below w.heap.size w W2:=by rw [hW2];exact Qah);(have hbl:Blk W2 w.heap.size 243 #[.int .i64 v1,.int .i64 v2,.int .i64 (t:Int)]:=by rw [hW2];exact Qbi);have c2:W2.cell? ⟨w.heap.size,2,none⟩=some (.int .i64 (t:Int)):=Zq hbl;have hlt:=hbl.lt;rw [←hW2];have HSX2:=HSX;clear HSX hbl hW2 HY HSX1;have HSX:=Zh (fun V (hV:Below w.heap.size w V∧V.cell? ⟨w.heap.size,2,none⟩=some (.int .i64 (t:Int)))=>And.intro hV.2 (HSX2.out V hV.1));(go_wp2_with fail);(refine wp_region_held_drew (S:=fun V=>Below w.heap.size w V∧V.cell? ⟨w.heap.size,2,none⟩=some (.int .i64 (t:Int))) (by kernel_rfl) ⟨hb2.drew,c2⟩ (fun hS0=>?_);refine tzd 0 55 ?_;refine tzd 4 59 ?_;refine tzd 8 63 ?_;refine tzd 12 67 ?_;refine tzd 16 71 ?_;refine tzd 20 75 ?_;refine tz 24 79 ?_;refine Zk 25 (fun K hK=>?_);go_simp;with_reducible refine (HTA.out _ hS0.1 trivial).mono ?_);rintro e w' ⟨z,hz,rfl,hb'⟩;have hb3:Below w.heap.size w w':=hS0.1.trans (hb'.mono hS0.1.size);have c3:w'.cell? ⟨w.heap.size,2,none⟩=some (.int .i64 (t:Int)):=Zc hb' (Zn _) c2;have HZ:=Zh (HTN.out z trivial hz);clear hz;go_simp;refine hK.out _ _ ⟨hb3,c3⟩ (fun _=>?_);clear hK K;refine tz 26 6 ?_;refine Zd ?_;(go_wp2_with fail);go_ret;rw [HZ.out];exact ⟨rfl,hb3⟩};{(have e1:((v:Int) != y1)=true:=by simp [hxy]);(go_wp2_with fail);go_ret;exact ⟨by rw [show Qai N a b=1152921504606846976 by unfold Qai;rw [hx,hy];simp [hxy]];rfl,Qah⟩}
section
variable {G:Nat→Prop} {g gc gs n m c:Nat} {A:Option Addr} {R:List Nat} {C:List Int} {S:List Nat}
theorem Qbk.cut {W:World}(h:Qbk W G g A gc gs n m c R C S){L:Nat}(hL:L≤m):Qbk (W.setCell ⟨g,0,none⟩ (.slice A L c)) G g A gc gs n L c (R.take L) C S:=by have h1:Own W 0 3 1 A L c (Qag (nis (R.take L))):=h.row.front_ hL (by simp [Qag,nis,List.map_take]);refine ⟨?_,h1.far (Qad _ _ _ _) (.inr fun e=>(h.dA g e).1 rfl),h.cs.far_ (fun e=>h.dg.1 e.symm) _,h.ss.far_ (fun e=>h.dg.2.1 e.symm) _,h.dA,h.dg,h.dG,fun b hb=>by simpa [World.setCell] using h.lt b hb,by rw [Yw,h.lr];omega,h.lc,h.ls,h.n0⟩;exact h.blk.set_ 0 _
set_option maxHeartbeats 1000000 in
theorem Qut (w:World)(h:Qbk w G g A gc gs n 0 c R C S) :
 Calls prog 102 #[.pointer (some ⟨g,0,none⟩)] w fun e w'=>e=.returned (.tuple #[.int .i64 0,.int .i64 0,.bool false])∧w=w':=by
 have f0:=h.f0;clear h;go_enter func102,ntmps102
 go_wp2_with fail
 refine bodyPost_ret (v:=.tuple #[.int .i64 0,.int .i64 0,.bool false]) (by simp [results,results102,go_sem]) rfl ?_;exact ⟨rfl,rfl⟩
set_option maxHeartbeats 2000000 in
theorem Quu (w:World)(L:Nat) (h:Qbk w G g A gc gs n (L+1) c R C S) (hp:HpS n R C S) (ho:Ord (at_ R C) (L+1)) (k:Nat) (hk:R[0]?=some k) (x:Int) (hx:C[k]?=some x) :
 Calls prog 102 #[.pointer (some ⟨g,0,none⟩)] w fun e w'=>e=.returned (.tuple #[.int .i64 k,.int .i64 x,.bool true])∧(∃ (R' S':List Nat),Qbk w' G g A gc gs n L c R' C S'∧HpS n R' C S'∧Ord (at_ R' C) L∧∀ q,q∈R'↔q∈R∧q≠k)∧Aft G w w':=by
 obtain ⟨gr,hgr,hfr⟩:=h.rowBlk (by omega);subst hgr;have hlr:=h.lr;have hcap:=h.cap;have hn0:=h.n0;have hkn:k<n:=(hp.seat 0 k hk).1
 obtain ⟨b,y,la,lb,lc,ld⟩:=hp.key (i:=L) (by omega);have f0:=h.f0;have r0:=h.rowAt hk;have HSW:=Zh (fun V (hV:Qbk V G g (some ⟨gr,0,none⟩) gc gs n (L+1) c R C S)=>(show Calls prog 150 #[.pointer (some ⟨g,0,none⟩),.int .i64 0,.int .i64 L] V _ from Qkj V hV hk la hkn lb));have HPP:=Zh (hp.pop hlr hk);have HPO:=Zh (hp.popOrd ho hlr hk);have HH:=Zh h.drew;have i1:((L:Int)+1 == 0)=false:=by simp;omega
 have e1:IntKind.i64.wrap ((L:Int)+1-1)=(L:Int):=by rw [show (L:Int)+1-1=(L:Int) by omega];exact IntWalk.i64_in _ (by omega)
 have hle:=hp.le;clear h hp ho la lc ld;go_enter func102,ntmps102
 go_wp2_with fail
 refine wp_region_held_drew (S:=fun V=>V.cell? ⟨g,0,none⟩=some (.slice (some ⟨gr,0,none⟩) (L+1) c)∧V.cell? ⟨gr,0,none⟩=some (.int .i64 k)) (by kernel_rfl) ⟨f0,r0⟩ (fun _=>?_);refine tzd 0 13 ?_;refine tzd 4 17 ?_;refine tzd 8 21 ?_;refine tzb 12 5 ?_;refine Zd ?_;clear f0 r0;go_wp2_with fail
 with_reducible refine (HSW.out _ HH.out).mono ?_
 rintro e w1 ⟨rfl,hw1,ha1⟩;have ha:Aft G w w1:=⟨ha1.kept,ha1.size,fun B hB=>(Zr B w).drew.trans (ha1.bel B hB)⟩;have f0:=hw1.f0;have z0:w1.frozen? ⟨g,0,none⟩=false:=hw1.blk.frozen 0;have hw2:=hw1.cut (L:=L) (by omega);have f2:=hw2.f2;have s2:=hw2.seatAt (i:=k) (Qbq 0 (by rw [hw2.ls];exact hkn));have z2:w1.frozen? ⟨gs,k,none⟩=false:=hw1.ss.frozen k;have hw3:Qbk ((w1.setCell ⟨g,0,none⟩ (.slice (some ⟨gr,0,none⟩) L c)).setCell ⟨gs,k,none⟩ (.int .i64 0)) G g (some ⟨gr,0,none⟩) gc gs n L c _ C _:=hw2.setS (i:=k) (k:=0);have HDN:=Zh (Qxf _ hw3 HPP.out.1 HPO.out);have HA3:=Zh ((ha.set hw1.dG.1 (i:=0) (.slice (some ⟨gr,0,none⟩) L c)).set hw1.dG.2.2 (i:=k) (.int .i64 0));have i2:0≤(k:Int):=by omega
 have i3:(k:Int)<n:=by omega
 have i4:(L:Int)≤c:=by omega
 clear hw1 hw2 hw3 ha ha1 HSW HH;go_wp2_with fail
 with_reducible refine HDN.out.mono ?_
 rintro e w3 ⟨rfl,R',S',hw3,hp3,ho3,hk3,ha3⟩;have f1:=hw3.f1;have q1:=hw3.costAt hx;have HW4:=Zh hw3.drew;have HA4:=Zh (HA3.out.trans ha3).drew;have HP4:=Zh hp3;have HO4:=Zh ho3;have HK4:=Zh hk3;clear hw3 ha3 hp3 ho3 hk3 HDN HA3 f0 z0 f2 s2 z2;go_wp2_with fail
 refine wp_region_held_drew (S:=fun V=>V.cell? ⟨g,1,none⟩=some (.slice (some ⟨gc,0,none⟩) n n)∧V.cell? ⟨gc,k,none⟩=some (.int .i64 x)) (by kernel_rfl) ⟨f1,q1⟩ (fun _=>?_);refine tzd 0 45 ?_;refine tzd 4 49 ?_;refine tzb 8 2 ?_;refine tz 10 4 ?_;refine Zd ?_;go_wp2_with fail
 refine bodyPost_ret (v:=.tuple #[.int .i64 k,.int .i64 x,.bool true]) (by simp [results,results102,go_sem]) rfl ?_;exact ⟨rfl,⟨R',S',HW4.out,HP4.out,HO4.out,fun q=>(HK4.out q).trans (HPP.out.2.1 q)⟩,HA4.out⟩
theorem Qno (w:World)(hp:Nat→Option Int)(h:Qck w G g n hp) :
 Calls prog 102 #[.pointer (some ⟨g,0,none⟩)] w fun e w' =>
  (((∀ q,hp q=none)∧e=.returned (.tuple #[.int .i64 0,.int .i64 0,.bool false])∧Qck w' G g n hp) ∨
   ∃ k x,k<n∧hp k=some x∧(∀ q z,hp q=some z→x≤z)∧e=.returned (.tuple #[.int .i64 (k:Nat),.int .i64 x,.bool true])∧Qck w' G g n (fun q=>if q=k then none else hp q))∧Aft G w w':=by
 obtain ⟨A,gc,gs,m,c,R,C,S,hw,hs,ho,hin⟩:=h;have hlr:=hw.lr;rcases m with _|L
 {refine (Qut w hw).mono ?_;rintro e w' ⟨rfl,rfl⟩;obtain rfl:=List.eq_nil_of_length_eq_zero hlr;exact ⟨.inl ⟨fun q=>by rw [hin q];simp [Qrj],rfl,A,gc,gs,0,c,[],C,S,hw,hs,ho,hin⟩,Aft.refl _ _⟩};{obtain ⟨k,x,hk,hkn,hx,_⟩:=hs.key (i:=0) (by omega);refine (Quu w L hw hs ho k hk x hx).mono ?_;rintro e w' ⟨rfl,⟨R',S',k1,k2,k3,k4⟩,ha⟩;have hm:k∈R:=List.mem_iff_getElem?.2 ⟨0,hk⟩;refine ⟨.inr ⟨k,x,hkn,by rw [hin k];unfold Qrj;rw [if_pos hm];exact hx,fun q z hq=>Qvo hs (by rw [hlr];exact ho) hk hx ((hin q).symm.trans hq),rfl,A,gc,gs,L,c,R',C,S',k1,k2,k3,fun q=>?_⟩,ha⟩;(show (if q=k then none else hp q)=_);unfold Qrj;by_cases e:q=k;{rw [if_pos e,if_neg (fun h=>((k4 q).1 h).2 e)]};{rw [if_neg e,hin q];unfold Qrj;by_cases hq:q∈R;{rw [if_pos hq,if_pos ((k4 q).2 ⟨hq,e⟩)]};{rw [if_neg hq,if_neg (fun h=>hq ((k4 q).1 h).1)]}}}
set_option maxHeartbeats 1000000 in
theorem Qmm (w:World)(hp:Nat→Option Int)(h:Qck w G g n hp) :
 Calls prog 155 #[.pointer (some ⟨g,0,none⟩)] w fun e w'=>e=.returned (.tuple #[])∧Qck w' G g n (fun _=>none)∧Aft G w w':=by
 obtain ⟨A,gc,gs,m,c,R,C,S,hw,hs,ho,hin⟩:=h;have hlr:=hw.lr;have hcap:=hw.cap;have hn0:=hw.n0;have hle:=hs.le;have f0:=hw.f0;have HH:=Zh hw;have HS:=Zh hs
 have HNO:=Zh (show ∀ q s,S[q]?=some s→q ∉ R→s=0 from fun q s h1 h2=>by
  rcases s with _|s
  · rfl
  · exact absurd (List.mem_iff_getElem?.2 ⟨s,hs.none_ q s h1⟩) h2)
 clear hw hs ho hin;go_enter func155,ntmps155
 go_wp2_with fail
 go_loopw [9] (fun x W=>∃ (i:Nat) (S':List Nat),x=.int .i64 i∧i≤m∧Qbk W G g A gc gs n m c R C S'∧(∀ q s,S'[q]?=some s→s=0∨(S[q]?=some s∧q ∉ R.take i))∧Aft G w W) (fun x _=>m-(intOf x).toNat)
 case atStart=>exact ⟨0,S,by go_num,by omega,HH.out,fun q s h1=>.inr ⟨h1,by simp⟩,Aft.refl _ _⟩
 case round =>
  obtain ⟨i,S',rfl,him,hw,hz,ha⟩:=hrel;by_cases hlt:i<m
  {obtain ⟨gr,hgr,hfr⟩:=hw.rowBlk (by omega);(subst hgr;obtain ⟨k,hk⟩:∃ k,R[i]?=some k:=⟨_,Qbq 0 (by omega)⟩;have hkn:=(HS.out.seat i k hk).1;have r0:=hw.rowAt hk;have f2:=hw.f2;have s0:=hw.seatAt (i:=k) (Qbq 0 (by rw [hw.ls];exact hkn));have z0:wr.frozen? ⟨gs,k,none⟩=false:=hw.ss.frozen k;have hw2:Qbk (wr.setCell ⟨gs,k,none⟩ (.int .i64 0)) G g (some ⟨gr,0,none⟩) gc gs n m c R C (S'.set k 0):=hw.setS (i:=k) (k:=0);have HW2:=Zh hw2;have HA2:=Zh (ha.set hw.dG.2.2 (i:=k) (.int .i64 0));have HZ:=Zh hz;have i1:0≤(i:Int):=by omega);(have i2:(i:Int)<m:=by omega);(have i3:0≤(k:Int):=by omega);(have i4:(k:Int)<n:=by omega);have hls:=hw.ls;clear hw hz ha hw2;(go_wp2_with fail);go_roundw;(case rel =>refine ⟨i+1,S'.set k 0,by go_num,by omega,HW2.out,fun q s h1=>?_,HA2.out⟩;by_cases e:k=q;{subst e;rw [Yg (by omega)] at h1;exact .inl (Yv h1).symm};{rw [Yh e] at h1;(rcases HZ.out q s h1 with h2|⟨h2,h3⟩);{exact .inl h2};{refine .inr ⟨h2,fun h4=>?_⟩;rw [List.take_add_one,hk] at h4;simp only [Option.toList_some,List.mem_append,List.mem_singleton] at h4;exact h4.elim h3 (fun e2=>e e2.symm)}});case measure=>simp [intOf];omega};{(obtain rfl:i=m:=by omega);have f0:=hw.f0;have z0:wr.frozen? ⟨g,0,none⟩=false:=hw.blk.frozen 0;have hw2:=hw.cut (L:=0) (by omega);have HW2:=Zh hw2;have HA2:=Zh (ha.set hw.dG.1 (i:=0) (.slice A 0 c));have HZ:=Zh hz;clear hw hz ha hw2;(go_wp2_with fail);go_end0;refine ⟨rfl,⟨A,gc,gs,0,c,[],C,S',HW2.out,⟨HW2.out.lc,HW2.out.ls,fun q k h1=>by simp at h1,fun k q h1=>?_⟩,fun q _ h1=>by omega,fun q=>by simp [Qrj]⟩,HA2.out⟩;(rcases HZ.out k _ h1 with h2|⟨h2,h3⟩);{omega};{rw [Ye (by omega)] at h3;exact absurd (HNO.out k _ h2 h3) (by omega)}}
theorem Qeg (n:Nat)(hn:n≤1000000000)(W:World):(Instr.makeSlice 36 (.int .i64 (n:Int)) (.int .i64 (n:Int))).run prog W=.ok (.slice (some ⟨W.heap.size,0,none⟩) n n) (W.alloc (.cells (Qbs (.int .i64 0) n) 2)) :=
 Qfp (P:=prog) 36 2 (.int .i64 0) 8 Qin underlying36 rfl n (by omega) (by omega) .i64 .i64 W
theorem nis_zero (n:Nat):nis (List.replicate n 0)=List.replicate n 0:=by simp [nis]
theorem Qck.made {W w:World}{n g gc gs:Nat} (hb:Blk W g 258 #[.slice none 0 0,.slice (some ⟨gc,0,none⟩) n n,.slice (some ⟨gs,0,none⟩) n n]) (hc:Blk W gc 2 (Qbs (.int .i64 0) n)) (hs:Blk W gs 3 (Qbs (.int .i64 0) n))
 (h1:g≠gc∧g≠gs∧gc≠gs) (h2:w.heap.size≤g∧w.heap.size≤gc∧w.heap.size≤gs) (hz:w.heap.size≤W.heap.size) (hn:n≤16384):Qck W (fun b=>b<w.heap.size) g n (fun _=>none):=by refine ⟨none,gc,gs,0,0,[],List.replicate n 0,List.replicate n 0,⟨hb,Own.nil _ _ _ _,by rw [←Qcd];exact hc,by rw [nis_zero,←Qcd];exact hs,fun b e=>by simp [Qab] at e,h1,⟨by omega,by omega,by omega⟩,fun b hb=>by omega,rfl,by simp,by simp,hn⟩,⟨by simp,by simp,fun i k h=>by simp at h,fun k i h=>?_⟩,fun i _ h=>by omega,fun k=>by simp [Qrj]⟩;have:=(Zs h).2;simp at this
set_option maxHeartbeats 1000000 in
theorem Qnn (w:World)(n:Nat)(hn:n≤16384) :
 Calls prog 100 #[.int .i64 n] w fun e w'=>∃ g,e=.returned (.pointer (some ⟨g,0,none⟩))∧Qck w' (fun b=>b<w.heap.size) g n (fun _=>none)∧Below w.heap.size w w':=by
 have hmk:=Qdg n (by omega);have hmc:=Qeg n (by omega);have e1:max (n:Int) 0=(n:Int):=by omega
 have e2:min (n:Int) 16384=(n:Int):=by omega
 go_enter func100,ntmps100
 go_wp2_with fail
 refine wp_region_held_drew (S:=fun V=>Below w.heap.size w V) (by kernel_rfl) (Zr _ _).drew (fun _=>?_);refine tz 0 6 ?_;refine tz 2 8 ?_;refine wpAnyH_ready (rs:=[1,3]) (by kernel_rfl) (by simp) ?_;refine AllReadyH.cons (o:=_) rfl (fun K hK=>?_) (AllReadyH.cons (o:=_) rfl (fun K hK=>?_) AllReadyH.nil);{go_simp;refine hK.out _ _ Qah (fun _=>?_);clear hK K;refine Zk 3 (fun K hK=>?_);go_simp;refine hK.out _ _ Qah (fun _=>?_);clear hK K;refine tz 4 10 ?_;refine Zk 5 (fun K hK=>?_);go_simp;refine hK.out _ _ Qah (fun _=>?_);clear hK K;refine tz 6 2 ?_;refine Zd ?_;(go_wp2_with fail);go_ret;refine ⟨_,rfl,Qck.made (gc:=w.heap.size) (gs:=w.heap.size+1) Qbi Qbi Qbi ?_ ?_ ?_ hn,Qah⟩;all_goals (simp;try omega)};{go_simp;refine hK.out _ _ Qah (fun _=>?_);clear hK K;refine Zk 1 (fun K hK=>?_);go_simp;refine hK.out _ _ Qah (fun _=>?_);clear hK K;refine tz 4 10 ?_;refine Zk 5 (fun K hK=>?_);go_simp;refine hK.out _ _ Qah (fun _=>?_);clear hK K;refine tz 6 2 ?_;refine Zd ?_;(go_wp2_with fail);go_ret;refine ⟨_,rfl,Qck.made (gs:=w.heap.size) (gc:=w.heap.size+1) Qbi Qbi Qbi ?_ ?_ ?_ hn,Qah⟩;all_goals (simp;try omega)}
end
end Go.Proofs.YtdheeddnkdhfeaaGreatDoor
