/- Parts of the proof: Hx, Hq, Hy, Hs. -/
import Derived.Test.YthoagdpakddbdaaGreatDoorK1
import Derived.Test.YthoagdpakddbdaaGreatDoorK5
namespace Go.Proofs.YthoagdpakddbdaaGreatDoor
open Go.RowKit Go.Proofs.Tryz
attribute [local go_sem ↓] Go.wp_at_zero Go.wp_at_succ
def hAh (x y:Int)(a b:Nat):Bool:=if x≠y then decide (x<y) else decide (a<b)
theorem hAh_t {x y:Int}{a b:Nat}(h:hAh x y a b=true):x≤y:=by
 unfold hAh at h
 by_cases e:x=y
 · omega
 · rw [if_pos e] at h;have:=of_decide_eq_true h;omega
theorem hAh_f {x y:Int}{a b:Nat}(h:hAh x y a b=false):y≤x:=by
 unfold hAh at h
 by_cases e:x=y
 · omega
 · rw [if_pos e] at h;have:=of_decide_eq_false h;omega
section
variable {G:Nat→Prop} {g gc gs gr n m c:Nat} {R:List Nat} {C:List Int} {S:List Nat}
set_option maxHeartbeats 1000000 in
theorem Qky (w:World) (h:Qav w G g (some ⟨gr,0,none⟩) gc gs n m c R C S) {i j a b:Nat} {x y:Int} (hi:R[i]?=some a) (hj:R[j]?=some b) (hx:C[a]?=some x) (hy:C[b]?=some y) (hn:b<n) :
 Calls prog 168 #[.pointer (some ⟨g,0,none⟩),.int .i64 i,.int .i64 j] w fun e w'=>e=.returned (.bool (hAh x y a b))∧Below w.heap.size w w':=by
 obtain ⟨hm,hcc⟩:=h.cap;have hn0:=h.n0;have hia:=(Zs hi).1;have hjb:=(Zs hj).1;have hxa:=(Zs hx).1;have hlr:=h.lr;have hlc:=h.lc;have HS:=Zh (show ∀ V,Below w.heap.size w V→Qav V G g (some ⟨gr,0,none⟩) gc gs n m c R C S from fun V hV=>h.keep hV)
 have i1:(0:Int)≤(i:Int):=by omega
 have i2:(i:Int)<(m:Int):=by omega
 have i3:(0:Int)≤(j:Int):=by omega
 have i4:(j:Int)<(m:Int):=by omega
 have i5:(0:Int)≤(a:Int):=by omega
 have i6:(a:Int)<(n:Int):=by omega
 have i7:(0:Int)≤(b:Int):=by omega
 have i8:(b:Int)<(n:Int):=by omega
 have HSX:=Zh (show ∀ V,Below w.heap.size w V→V.cell? ⟨g,0,none⟩=some (.slice (some ⟨gr,0,none⟩) m c)∧V.cell? ⟨g,1,none⟩=some (.slice (some ⟨gc,0,none⟩) n n)∧V.cell? ⟨gr,i,none⟩=some (.int .i64 a)∧V.cell? ⟨gr,j,none⟩=some (.int .i64 b)∧V.cell? ⟨gc,a,none⟩=some (.int .i64 x)∧V.cell? ⟨gc,b,none⟩=some (.int .i64 y) from
  fun V hV=>⟨(h.keep hV).f0,(h.keep hV).f1,(h.keep hV).rowAt hi,(h.keep hV).rowAt hj,(h.keep hV).costAt hx,(h.keep hV).costAt hy⟩)
 have f0:=h.f0;have f1:=h.f1;have r1:=h.rowAt hi;have r2:=h.rowAt hj;have q1:=h.costAt hx;have q2:=h.costAt hy;clear h hi hj hx hy HS
 go_enter func168,ntmps168
 go_wp2_with fail
 refine wp_region_held_drew (S:=fun V=>Below w.heap.size w V) (by kernel_rfl) (Zr _ _).drew (fun _=>?_);refine tz 0 9 ?_;refine tz 1 10 ?_;refine tz 2 11 ?_;refine tz 3 12 ?_;refine tz 4 13 ?_;refine tz 5 14 ?_;refine tz 6 15 ?_;refine tz 7 16 ?_;refine tz 8 17 ?_;refine tz 9 18 ?_;refine tz 10 19 ?_;refine tz 11 20 ?_;refine tz 12 21 ?_;refine tz 13 22 ?_;refine tz 14 7 ?_;refine tz 15 8 ?_;refine Zd ?_
 go_wp2_with fail
 refine wp_region_held_drew (S:=fun V=>Below w.heap.size w V) (by kernel_rfl) (Zr _ _).drew.drew (fun _=>?_);refine tz 0 23 ?_;refine tz 1 24 ?_;refine tz 2 25 ?_;refine tz 3 26 ?_;refine tz 4 27 ?_;refine tz 5 28 ?_;refine tz 6 29 ?_;refine tz 7 30 ?_;refine tz 8 31 ?_;refine tz 9 32 ?_;refine tz 10 33 ?_;refine tz 11 34 ?_;refine tz 12 35 ?_;refine tz 13 36 ?_;refine tz 14 37 ?_;refine Zd ?_
 by_cases hxy:x=y
 · have e1:(x == y)=true:=by simp [hxy]
   go_wp2_with fail
   go_ret
   exact ⟨Qbb (by simp [hAh,hxy]),Qae⟩
 · have e1:(x == y)=false:=by simp [hxy]
   go_wp2_with fail
   refine wp_region_held_drew (S:=fun V=>Below w.heap.size w V) (by kernel_rfl) (Zr _ _).drew.drew.drew (fun _=>?_);refine tz 0 38 ?_;refine tz 1 39 ?_;refine tz 2 40 ?_;refine tz 3 41 ?_;refine tz 4 42 ?_;refine tz 5 43 ?_;refine tz 6 44 ?_;refine tz 7 45 ?_;refine tz 8 46 ?_;refine tz 9 47 ?_;refine tz 10 48 ?_;refine tz 11 49 ?_;refine tz 12 50 ?_;refine tz 13 51 ?_;refine tz 14 52 ?_;refine tz 15 6 ?_;refine Zd ?_
   go_wp2_with fail
   go_ret
   exact ⟨Qbb (by simp [hAh,hxy]),Qae⟩
set_option maxHeartbeats 2000000 in
theorem Qjo (w:World) (h:Qav w G g (some ⟨gr,0,none⟩) gc gs n m c R C S) {i j a b:Nat} (hi:R[i]?=some a) (hj:R[j]?=some b) (ha:a<n) (hb:b<n) :
 Calls prog 161 #[.pointer (some ⟨g,0,none⟩),.int .i64 i,.int .i64 j] w fun e w'=>e=.returned (.tuple #[])∧Qav w' G g (some ⟨gr,0,none⟩) gc gs n m c (Qdl R i j) C (Qii R S i j)∧Aft G w w':=by
 have hm:=h.cap.1;have hcc:=h.cap.2;have hn0:=h.n0;have hia:=(Zs hi).1;have hjb:=(Zs hj).1;have hlr:=h.lr;have hls:=h.ls;have i1:(0:Int)≤(i:Int):=by omega
 have i2:(i:Int)<(m:Int):=by omega
 have i3:(0:Int)≤(j:Int):=by omega
 have i4:(j:Int)<(m:Int):=by omega
 have i5:(0:Int)≤(a:Int):=by omega
 have i6:(a:Int)<(n:Int):=by omega
 have i7:(0:Int)≤(b:Int):=by omega
 have i8:(b:Int)<(n:Int):=by omega
 have f0:=h.f0;have f2:=h.f2;have r1:=h.rowAt hi;have r2:=h.rowAt hj;have z1:w.frozen? ⟨gr,i,none⟩=false:=h.fzR;have z2:w.frozen? ⟨gr,j,none⟩=false:=h.fzR;have hR1:Qdl R i j=(R.set i b).set j a:=by unfold Qdl;rw [Qbu hi,Qbu hj]
 have hS1:Qii R S i j=(S.set b (i+1)).set a (j+1):=by unfold Qii;rw [Qbu hi,Qbu hj]
 have hw1:=h.setR (i:=i) (k:=b)
 have g1:(R.set i b)[j]?=some b:=by
  rw [List.getElem?_set]
  by_cases e:i=j
  · subst e;simp [hia]
  · rw [if_neg e];exact hj
 have r3:=hw1.rowAt g1;have hw2:=hw1.setR (i:=j) (k:=a)
 have g2:((R.set i b).set j a)[i]?=some b:=by
  rw [List.getElem?_set]
  by_cases e:j=i
  · subst e;rw [hi] at hj;cases hj;simp [hia]
  · rw [if_neg e];simp [hia]
 have g3:((R.set i b).set j a)[j]?=some a:=by simp [hjb]
 have HW2:=Zh hw2;have HF:=Zh ((h.dA gr rfl).2.2.2);clear h hw1 hw2
 go_enter func161,ntmps161
 go_wp2_with fail
 refine Qbp 25 (S:=fun V=>V.cell? ⟨g,0,none⟩=some (.slice (some ⟨gr,0,none⟩) m c)∧V.cell? ⟨gr,i,none⟩=some (.int .i64 a)∧V.cell? ⟨gr,j,none⟩=some (.int .i64 b)) (by kernel_rfl) ⟨f0,r1,r2⟩ (fun _=>?_);refine tkF 0 6 (h:=⟨_,tv,?_⟩);simp only [pE,List.set];refine tkF 1 7 (h:=⟨_,tv,?_⟩);simp only [pE,List.set];refine tkF 2 8 (h:=⟨_,tv,?_⟩);simp only [pE,List.set];refine tkK 3 9 (h:=⟨_,tv,?_⟩);simp only [pE,List.set];refine tkF 4 10 (h:=⟨_,tv,?_⟩);simp only [pE,List.set];refine tkF 5 11 (h:=⟨_,tv,?_⟩);simp only [pE,List.set];refine tkF 6 12 (h:=⟨_,tv,?_⟩);simp only [pE,List.set];refine tkF 7 13 (h:=⟨_,tv,?_⟩);simp only [pE,List.set];refine tkK 8 14 (h:=⟨_,tv,?_⟩);simp only [pE,List.set];refine tkF 9 15 (h:=⟨_,tv,?_⟩);simp only [pE,List.set];refine tkF 10 16 (h:=⟨_,tv,?_⟩);simp only [pE,List.set];refine tkF 11 17 (h:=⟨_,tv,?_⟩);simp only [pE,List.set];refine tkF 12 18 (h:=⟨_,tv,?_⟩);simp only [pE,List.set];refine tkK 13 19 (h:=⟨_,tv,?_⟩);simp only [pE,List.set];refine tkF 14 20 (h:=⟨_,tv,?_⟩);simp only [pE,List.set];refine tkF 15 21 (h:=⟨_,tv,?_⟩);simp only [pE,List.set];refine tkK 16 22 (h:=⟨_,tv,?_⟩);simp only [pE,List.set];refine tkF 17 23 (h:=⟨_,tv,?_⟩);simp only [pE,List.set];refine tkF 18 24 (h:=⟨_,tv,?_⟩);simp only [pE,List.set];refine tkF 19 25 (h:=⟨_,tv,?_⟩);simp only [pE,List.set];refine tkK 20 26 (h:=⟨_,tv,?_⟩);simp only [pE,List.set];refine tkF 21 27 (h:=⟨_,tv,?_⟩);simp only [pE,List.set];refine tkF 22 28 (h:=⟨_,tv,?_⟩);simp only [pE,List.set];refine tkK 23 29 (h:=⟨_,tv,?_⟩);simp only [pE,List.set];refine tkF 24 30 (h:=⟨_,tv,?_⟩);simp only [pE,List.set];refine Qci (k:=25) (by kernel_rfl) rfl (fun K hK=>?_);go_simp;refine hK.out _ _ ?_;clear hK K;refine wpAny_of_held (S:=fun _=>True) _ _ _ _ ?_;refine tz 26 31 ?_;refine Zk 27 (fun K hK=>?_);go_simp;refine hK.out _ _ trivial (fun _=>?_);clear hK K;refine Zd ?_;obtain ⟨W2,hW2⟩:∃ W2,W2=((w.setCell ⟨gr,i,none⟩ (.int .i64 b)).setCell ⟨gr,j,none⟩ (.int .i64 a)).drew:=⟨_,rfl⟩;have hh2:Qav W2 G g (some ⟨gr,0,none⟩) gc gs n m c ((R.set i b).set j a) C S:=by rw [hW2];exact HW2.out.drew
 have ha2:Aft G w W2:=by rw [hW2];exact (((Aft.refl G w).set HF.out _).set HF.out _).drew
 have t0:W2.cell? ⟨g,0,none⟩=some (.slice (some ⟨gr,0,none⟩) m c):=hh2.f0;have t2:W2.cell? ⟨g,2,none⟩=some (.slice (some ⟨gs,0,none⟩) n n):=hh2.f2;have u1:=hh2.rowAt g2;have hw3:=hh2.setS (i:=b) (k:=i+1);have hw4:=hw3.drew.setS (i:=a) (k:=j+1);have p0:=hw3.drew.f0;have p2:=hw3.drew.f2;have q1:=hw3.drew.rowAt g3;have HW4:=Zh hw4;have HG:=Zh hh2.dG.2.2;have HA:=Zh ha2;have e2:((i+1:Nat):Int)=(i:Int)+1:=by omega
 have e3:((j+1:Nat):Int)=(j:Int)+1:=by omega
 have y1:W2.frozen? ⟨gs,b,none⟩=false:=hh2.ss.frozen b;have y2:W2.frozen? ⟨gs,a,none⟩=false:=hh2.ss.frozen a;have x1:∃ v,W2.cell? ⟨gs,b,none⟩=some v:=⟨_,hh2.seatAt (Qbd 0 (by omega))⟩;have x2:∃ v,(W2.setCell ⟨gs,b,none⟩ (.int .i64 ((i+1:Nat):Int))).drew.cell? ⟨gs,a,none⟩=some v:=⟨_,hw3.drew.seatAt (Qbd 0 (by rw [List.length_set];omega))⟩;obtain ⟨v1,x1⟩:=x1;obtain ⟨v2,x2⟩:=x2;rw [e2] at x2 p0 p2 q1;rw [←hW2];clear HW2 hW2 hh2 ha2 hw3 hw4 r1 r2 r3 f0 f2 z1 z2
 go_wp2_with fail
 refine Qbp 14 (S:=fun V=>V.cell? ⟨g,0,none⟩=some (.slice (some ⟨gr,0,none⟩) m c)∧V.cell? ⟨g,2,none⟩=some (.slice (some ⟨gs,0,none⟩) n n)∧V.cell? ⟨gr,i,none⟩=some (.int .i64 b)) (by kernel_rfl) ⟨t0,t2,u1⟩ (fun _=>?_);refine tkF 0 32 (h:=⟨_,tv,?_⟩);simp only [pE,List.set];refine tkF 1 33 (h:=⟨_,tv,?_⟩);simp only [pE,List.set];refine tkF 2 34 (h:=⟨_,tv,?_⟩);simp only [pE,List.set];refine tkK 3 35 (h:=⟨_,tv,?_⟩);simp only [pE,List.set];refine tkF 4 36 (h:=⟨_,tv,?_⟩);simp only [pE,List.set];refine tkF 5 37 (h:=⟨_,tv,?_⟩);simp only [pE,List.set];refine tkF 6 38 (h:=⟨_,tv,?_⟩);simp only [pE,List.set];refine tkK 7 39 (h:=⟨_,tv,?_⟩);simp only [pE,List.set];refine tkF 8 40 (h:=⟨_,tv,?_⟩);simp only [pE,List.set];refine tkF 9 41 (h:=⟨_,tv,?_⟩);simp only [pE,List.set];refine tkK 10 42 (h:=⟨_,tv,?_⟩);simp only [pE,List.set];refine tkF 11 43 (h:=⟨_,tv,?_⟩);simp only [pE,List.set];refine tkF 12 44 (h:=⟨_,tv,?_⟩);simp only [pE,List.set];refine tkF 13 45 (h:=⟨_,tv,?_⟩);simp only [pE,List.set];refine Qci (k:=14) (by kernel_rfl) rfl (fun K hK=>?_);go_simp;refine hK.out _ _ ?_;clear hK K;refine Qch (by kernel_rfl) ?_ _;have e4:IntKind.i64.wrap ((i:Int)+1)=(i:Int)+1:=IntWalk.i64_in _ (by omega);have e5:IntKind.i64.wrap ((j:Int)+1)=(j:Int)+1:=IntWalk.i64_in _ (by omega);rw [e4];obtain ⟨W3,hW3⟩:∃ W3,W3=(W2.setCell ⟨gs,b,none⟩ (.int .i64 ((i:Int)+1))).drew:=⟨_,rfl⟩;have y3:W3.frozen? ⟨gs,a,none⟩=false:=by rw [hW3];rw [e2] at HW4;exact (HW4.out.ss.frozen a).symm.trans (by simp) |>.symm.trans (by simp)
 rw [←hW3] at x2 p0 p2 q1;rw [e2,←hW3] at HW4;have HA3:=Zh (show Aft G w W3 by rw [hW3];exact (HA.out.set HG.out _).drew)
 rw [←hW3];clear hW3 HA t0 t2 u1 x1 y1 y2
 go_wp2_with fail
 refine Qbp 14 (S:=fun V=>V.cell? ⟨g,0,none⟩=some (.slice (some ⟨gr,0,none⟩) m c)∧V.cell? ⟨g,2,none⟩=some (.slice (some ⟨gs,0,none⟩) n n)∧V.cell? ⟨gr,j,none⟩=some (.int .i64 a)) (by kernel_rfl) ⟨p0,p2,q1⟩ (fun _=>?_);refine tkF 0 46 (h:=⟨_,tv,?_⟩);simp only [pE,List.set];refine tkF 1 47 (h:=⟨_,tv,?_⟩);simp only [pE,List.set];refine tkF 2 48 (h:=⟨_,tv,?_⟩);simp only [pE,List.set];refine tkK 3 49 (h:=⟨_,tv,?_⟩);simp only [pE,List.set];refine tkF 4 50 (h:=⟨_,tv,?_⟩);simp only [pE,List.set];refine tkF 5 51 (h:=⟨_,tv,?_⟩);simp only [pE,List.set];refine tkF 6 52 (h:=⟨_,tv,?_⟩);simp only [pE,List.set];refine tkK 7 53 (h:=⟨_,tv,?_⟩);simp only [pE,List.set];refine tkF 8 54 (h:=⟨_,tv,?_⟩);simp only [pE,List.set];refine tkF 9 55 (h:=⟨_,tv,?_⟩);simp only [pE,List.set];refine tkK 10 56 (h:=⟨_,tv,?_⟩);simp only [pE,List.set];refine tkF 11 57 (h:=⟨_,tv,?_⟩);simp only [pE,List.set];refine tkF 12 58 (h:=⟨_,tv,?_⟩);simp only [pE,List.set];refine tkF 13 59 (h:=⟨_,tv,?_⟩);simp only [pE,List.set];refine Qci (k:=14) (by kernel_rfl) rfl (fun K hK=>?_);go_simp;refine hK.out _ _ ?_;clear hK K;refine Qch (by kernel_rfl) ?_ _
 go_wp2_with fail
 go_end0
 refine ⟨rfl,?_,(HA3.out.set HG.out _).drew⟩;rw [hR1,hS1,←e3];exact HW4.out.drew
end
end Go.Proofs.YthoagdpakddbdaaGreatDoor
namespace Go.Proofs.YthoagdpakddbdaaGreatDoor
theorem Ord.congr {c c':Nat→Int}{len:Nat}(h:Ord c len)(e:∀ x,x<len→c' x=c x):Ord c' len:=fun i h0 hl=>by rw [e i hl,e _ (by omega)];exact h i h0 hl
theorem UpO.congr {c c':Nat→Int}{len p:Nat}(h:UpO c len p)(e:∀ x,x<len→c' x=c x):UpO c' len p :=
 ⟨fun i h0 hl hn=>by rw [e i hl,e _ (by omega)];exact h.o i h0 hl hn,fun i h0 hl hp hq=>by rw [e i hl,e _ (by omega)];exact h.g i h0 hl hp hq⟩
theorem Qhh.congr {c c':Nat→Int}{len p:Nat}(h:Qhh c len p)(e:∀ x,x<len→c' x=c x):Qhh c' len p :=
 ⟨fun i h0 hl hn=>by rw [e i hl,e _ (by omega)];exact h.o i h0 hl hn,fun i h0 hl hp hq=>by rw [e i hl,e _ (by omega)];exact h.g i h0 hl hp hq⟩
theorem Qnb {r:List Nat}{i j:Nat}(hi:i<r.length)(hj:j<r.length)(k:Nat):k∈Qdl r i j↔k∈r:=by
 simp only [List.mem_iff_getElem?]
 constructor
 · rintro ⟨x,hx⟩
   rw [Qdb hi hj] at hx
   by_cases e:x=j
   · rw [if_pos e] at hx;exact ⟨_,hx⟩
   · rw [if_neg e] at hx
     by_cases e2:x=i
     · rw [if_pos e2] at hx;exact ⟨_,hx⟩
     · rw [if_neg e2] at hx;exact ⟨_,hx⟩
 · rintro ⟨x,hx⟩
   by_cases e:x=i
   · subst e;exact ⟨j,by rw [Qdb hi hj,if_pos rfl];exact hx⟩
   · by_cases e2:x=j
     · subst e2
       exact ⟨i,by rw [Qdb hi hj,if_neg (fun e3=>e e3.symm),if_pos rfl];exact hx⟩
     · exact ⟨x,by rw [Qdb hi hj,if_neg e2,if_neg e];exact hx⟩
theorem HpS.key {n:Nat}{r:List Nat}{cs:List Int}{st:List Nat}(h:HpS n r cs st){i:Nat}(hi:i<r.length):∃ k x,r[i]?=some k∧k<n∧cs[k]?=some x∧at_ r cs i=x:=by
 have h1:=Qbd 0 hi;have h2:=(h.seat i _ h1).1;refine ⟨_,_,h1,h2,Qbd 0 (by rw [h.lc];exact h2),rfl⟩
theorem Qik:∀ (n:Nat)(l:List Nat),l.Nodup→(∀ k∈l,k<n)→l.length≤n
 | 0,l,_,h=>by
  cases l with
  | nil=>simp
  | cons a l=>exact absurd (h a (by simp)) (by omega)
 | n+1,l,hn,h=>by
  have h1:=Qik n (l.erase n) (hn.erase n) (fun k hk=>by
   have h2:=h k (List.mem_of_mem_erase hk);have h3:k≠n:=fun e=>by rw [e] at hk;exact (List.Nodup.not_mem_erase hn) hk
   omega)
  have h4:l.length≤(l.erase n).length+1:=by
   rw [List.length_erase]
   split <;> omega
  omega
theorem HpS.le {n:Nat}{r:List Nat}{cs:List Int}{st:List Nat}(h:HpS n r cs st):r.length≤n:=by
 refine Qik n r ?_ (fun k hk=>?_)
 · refine List.pairwise_iff_getElem.2 (fun i j hi hj hij e=>?_)
   have h1:=Zg hi;have h2:=Zg hj;rw [←e] at h2;exact absurd (h.nodup h1 h2) (by omega)
 · obtain ⟨i,hi⟩:=List.mem_iff_getElem?.1 hk
   exact (h.seat i k hi).1
theorem up_step {n p:Nat}{r:List Nat}{cs:List Int}{st:List Nat}(h:HpS n r cs st) (hu:UpO (at_ r cs) r.length p) (h0:0<p) (hl:p<r.length) (hc:at_ r cs p≤at_ r cs ((p-1) / 2)) :
 HpS n (Qdl r p ((p-1) / 2)) cs (Qii r st p ((p-1) / 2))∧UpO (at_ (Qdl r p ((p-1) / 2)) cs) (Qdl r p ((p-1) / 2)).length ((p-1) / 2) :=
 ⟨h.swap hl (by omega),by rw [Qeg];exact (hu.step h0 hl hc).congr (fun x hx=>Qum hl (by omega) x hx)⟩
theorem Qvz {n p m:Nat}{r:List Nat}{cs:List Int}{st:List Nat}(h:HpS n r cs st) (hd:Qhh (at_ r cs) r.length p) (h0:0<m) (hl:m<r.length) (hm:(m-1) / 2=p) (hc:at_ r cs m≤at_ r cs p) (ho:∀ i,0<i→i<r.length→(i-1) / 2=p→at_ r cs m≤at_ r cs i) :
 HpS n (Qdl r p m) cs (Qii r st p m)∧Qhh (at_ (Qdl r p m) cs) (Qdl r p m).length m :=
 ⟨h.swap (by omega) hl,by rw [Qeg];exact (hd.step h0 hl hm hc ho).congr (fun x hx=>Qum (by omega) hl x hx)⟩
end Go.Proofs.YthoagdpakddbdaaGreatDoor
namespace Go.Proofs.YthoagdpakddbdaaGreatDoor
open Go.RowKit Go.Proofs.Tryz
attribute [local go_sem ↓] Go.wp_at_zero Go.wp_at_succ
section
variable {G:Nat→Prop} {g gc gs gr n m c:Nat} {R:List Nat} {C:List Int} {S:List Nat}
set_option maxHeartbeats 1000000 in
theorem Qua (w:World) (h:Qav w G g (some ⟨gr,0,none⟩) gc gs n m c R C S) (hp:HpS n R C S) (p:Nat) (hpm:p<m) (hu:UpO (at_ R C) m p) :
 Calls prog 160 #[.pointer (some ⟨g,0,none⟩),.int .i64 p] w fun e w'=>e=.returned (.tuple #[])∧∃ R' S',Qav w' G g (some ⟨gr,0,none⟩) gc gs n m c R' C S'∧HpS n R' C S'∧Ord (at_ R' C) m∧(∀ k,k∈R'↔k∈R)∧Aft G w w':=by
 have hcap:=h.cap;have HH:=Zh h;have HP:=Zh hp;have HU:=Zh hu;clear h hp hu
 go_enter func160,ntmps160
 go_wp2_with fail
 go_loopw [1] (fun q W=>∃ (p:Nat) (R' S':List Nat),q=.int .i64 p∧p<m∧Qav W G g (some ⟨gr,0,none⟩) gc gs n m c R' C S'∧HpS n R' C S'∧UpO (at_ R' C) m p∧(∀ k,k∈R'↔k∈R)∧Aft G w W) (fun q _=>(intOf q).toNat)
 case atStart=>exact ⟨p,R,S,rfl,hpm,HH.out,HP.out,HU.out,fun _=>Iff.rfl,Aft.refl _ _⟩
 case round =>
  obtain ⟨p,R',S',rfl,hpm,hw,hp,hu,hk,ha⟩:=hrel;have hlr:=hw.lr
  by_cases h0:p=0
  · subst h0
    have HW:=Zh hw;have HO:=Zh (hu.done (.inl rfl));have HQ:=Zh hp;have HK:=Zh hk;have HA:=Zh ha;clear hw hp hu hk ha
    go_wp2_with fail
    go_end0
    exact ⟨rfl,R',S',HW.out,HQ.out,HO.out,HK.out,HA.out⟩
  · have i1:(0:Int)<(p:Int):=by omega
    obtain ⟨a,x,ka,kb,kc,kd⟩:=hp.key (i:=p) (by omega);obtain ⟨b,y,la,lb,lc,ld⟩:=hp.key (i:=(p-1) / 2) (by omega);have HAH:=Zh (fun V (hV:Qav V G g (some ⟨gr,0,none⟩) gc gs n m c R' C S')=>Qky V hV ka la kc lc lb);have HST:=Zh (fun hc=>up_step hp (by rw [hlr];exact hu) (by omega) (by omega) hc);have HDN:=Zh (fun hc=>hu.done (.inr hc));have HSW:=Zh (fun V (hV:Qav V G g (some ⟨gr,0,none⟩) gc gs n m c R' C S')=>Qjo V hV ka la kb lb);have HQ:=Zh hp;have HK:=Zh hk;have HW:=Zh hw;have HA:=Zh ha;have HKM:=Zh (Qnb (r:=R') (i:=p) (j:=(p-1) / 2) (by omega) (by omega));have HLT:=Zh hw.lt;clear hw hp hu hk ha ka kb kc la lb lc
    go_wp2_with fail
    rw [show ((p:Int)-1) / 2=(((p-1) / 2:Nat):Int) by omega]
    with_reducible refine (HAH.out _ HW.out).mono ?_
    rintro e w' ⟨rfl,hb⟩;have hw':=HW.out.keep hb;have HW':=Zh hw';have HA':=Zh (HA.out.trans (Aft.below hb HLT.out));clear hw' hb HW HA HAH
    cases hah:hAh x y a b with
    | false =>
     have HO:=Zh (HDN.out (by rw [kd,ld];exact hAh_f hah))
     go_wp2_with fail
     go_end0
     exact ⟨rfl,R',S',HW'.out,HQ.out,HO.out,HK.out,HA'.out⟩
    | true =>
     have HS':=Zh (HST.out (by rw [kd,ld];exact hAh_t hah))
     go_wp2_with fail
     rw [show ((p:Int)-1) / 2=(((p-1) / 2:Nat):Int) by omega]
     with_reducible refine (HSW.out _ HW'.out).mono ?_
     rintro e w'' ⟨rfl,hw2,ha2⟩;have HW2:=Zh hw2;have HA2:=Zh (HA'.out.trans ha2);clear hw2 ha2 HW' HA' HSW
     go_wp2_with fail
     go_roundw
     case rel=>exact ⟨(p-1) / 2,_,_,by rw [show ((p:Int)-1) / 2=(((p-1) / 2:Nat):Int) by omega],by omega,HW2.out,HS'.out.1,by have:=HS'.out.2;rw [Qeg,hlr] at this;exact this,fun k=>(HKM.out k).trans (HK.out k),HA2.out⟩
     case measure=>simp [intOf];omega
set_option maxHeartbeats 2000000 in
theorem Qul (w:World) (h:Qav w G g (some ⟨gr,0,none⟩) gc gs n m c R C S) (hp:HpS n R C S) (hd:Qhh (at_ R C) m 0) :
 Calls prog 162 #[.pointer (some ⟨g,0,none⟩),.int .i64 0] w fun e w'=>e=.returned (.tuple #[])∧∃ R' S',Qav w' G g (some ⟨gr,0,none⟩) gc gs n m c R' C S'∧HpS n R' C S'∧Ord (at_ R' C) m∧(∀ k,k∈R'↔k∈R)∧Aft G w w':=by
 have hcap:=h.cap;have hmn:m≤n:=by rw [←h.lr];exact hp.le
 have hn0:=h.n0;have HH:=Zh h;have HP:=Zh hp;have HD:=Zh hd;clear h hp hd
 go_enter func162,ntmps162
 go_wp2_with fail
 go_loopw [1] (fun q W=>∃ (p:Nat) (R' S':List Nat),q=.int .i64 p∧(p<m∨p=0)∧Qav W G g (some ⟨gr,0,none⟩) gc gs n m c R' C S'∧HpS n R' C S'∧Qhh (at_ R' C) m p∧(∀ k,k∈R'↔k∈R)∧Aft G w W) (fun q _=>m-(intOf q).toNat)
 case atStart=>exact ⟨0,R,S,rfl,.inr rfl,HH.out,HP.out,HD.out,fun _=>Iff.rfl,Aft.refl _ _⟩
 case round =>
  obtain ⟨p,R',S',rfl,hpm,hw,hp,hd,hk,ha⟩:=hrel;have hlr:=hw.lr;have HQ:=Zh hp;have HDD:=Zh hd;have HK:=Zh hk;have HA:=Zh ha;have HW:=Zh hw;clear hw hp hd hk ha
  go_wp2_with fail
  go_loopw [4,5] (fun x y W=>Below wr.heap.size wr W∧∃ l j:Nat,x=.int .i64 l∧y=.int .i64 j∧2*p+1≤j∧j≤2*p+3∧(l=p∨(2*p+1≤l∧l<j∧l<m))∧at_ R' C l≤at_ R' C p∧∀ i,2*p+1≤i→i<j→i<m→at_ R' C l≤at_ R' C i) (fun _ y _=>2*p+3-(intOf y).toNat)
  case atStart=>exact ⟨Zr _ _,p,2*p+1,rfl,by go_num,by omega,by omega,.inl rfl,Int.le_refl _,fun i h1 h2=>by omega⟩
  case round =>
   obtain ⟨hb,l,j,rfl,rfl,h1,h2,h3,h4,h5⟩:=hrel;have HB:=Zh hb;have hwV:=HW.out.keep hb;have f0:=hwV.f0
   by_cases hj:j≤2*p+2∧j<m
   · obtain ⟨hj2,hjm⟩:=hj
     have i1:(j:Int)≤2*(p:Int)+2:=by omega
     have i2:(j:Int)<(m:Int):=by omega
     obtain ⟨a,x,ka,kb,kc,kd⟩:=HQ.out.key (i:=j) (by omega);obtain ⟨b,y,la,lb,lc,ld⟩:=HQ.out.key (i:=l) (by omega);have HAH:=Zh (Qky _ hwV ka la kc lc lb);have H4:=Zh h4;have H5:=Zh h5;clear hb hwV ka kb kc la lb lc h4 h5
     go_wp2_with fail
     with_reducible refine HAH.out.mono ?_
     rintro e w' ⟨rfl,hb'⟩;have HB':=Zh (HB.out.trans (hb'.mono HB.out.size));clear hb' HB HAH
     cases hah:hAh x y a b with
     | false =>
      have hle:=hAh_f hah
      go_wp2_with fail
      go_roundw
      case rel =>
       refine ⟨HB'.out,l,j+1,rfl,by go_num,by omega,by omega,by omega,H4.out,fun i g1 g2 g3=>?_⟩
       by_cases e:i=j
       · subst e;rw [kd,ld];exact hle
       · exact H5.out i g1 (by omega) g3
      case measure=>simp [intOf];omega
     | true =>
      have hle:=hAh_t hah
      go_wp2_with fail
      go_roundw
      case rel =>
       refine ⟨HB'.out,j,j+1,rfl,by go_num,by omega,by omega,by omega,?_,fun i g1 g2 g3=>?_⟩
       · have:=H4.out;omega
       · by_cases e:i=j
         · subst e;exact Int.le_refl _
         · have:=H5.out i g1 (by omega) g3;omega
      case measure=>simp [intOf];omega
   · have HDN:=Zh (show ∀ i,0<i→i<m→(i-1) / 2=p→at_ R' C l≤at_ R' C i from fun i g1 g2 g3=>h5 i (by omega) (by omega) g2)
     have HW':=Zh hwV;have HA':=Zh (HA.out.trans (Aft.below HB.out HW.out.lt));have HX:((2*(p:Int)+2<(j:Int))∨((j:Int)≤2*(p:Int)+2∧(m:Int)≤(j:Int))):=by omega
     clear hb hwV h5 HB HW HA
     by_cases hlp:l=p
     · subst hlp
       have HO:=Zh (HDD.out.done HDN.out)
       rcases HX with hx|⟨hx,hy⟩
       · have e1:decide ((j:Int)≤2*(l:Int)+2)=false:=by simp;omega
         go_wp2_with fail
         (try simp only [Exit.inBlock,Exit.then]);refine bodyPost_ret (results_none rfl _ _ _) rfl ?_
         exact ⟨rfl,R',S',HW'.out,HQ.out,HO.out,HK.out,HA'.out⟩
       · have e1:decide ((j:Int)<(m:Int))=false:=by simp;omega
         go_wp2_with fail
         (try simp only [Exit.inBlock,Exit.then]);refine bodyPost_ret (results_none rfl _ _ _) rfl ?_
         exact ⟨rfl,R',S',HW'.out,HQ.out,HO.out,HK.out,HA'.out⟩
     · obtain ⟨a,x,ka,kb,kc,kd⟩:=HQ.out.key (i:=p) (by omega)
       obtain ⟨b,y,la,lb,lc,ld⟩:=HQ.out.key (i:=l) (by omega);have HSW:=Zh (Qjo _ HW'.out ka la kb lb);have HST:=Zh (Qvz HQ.out (p:=p) (m:=l) (by rw [hlr];exact HDD.out) (by omega) (by omega) (by omega) h4 (by rw [hlr];exact HDN.out));have HKM:=Zh (Qnb (r:=R') (i:=p) (j:=l) (by omega) (by omega));have hlp':¬(l:Int)=(p:Int):=by omega
       clear ka kb kc la lb lc
       rcases HX with hx|⟨hx,hy⟩
       · have e1:decide ((j:Int)≤2*(p:Int)+2)=false:=by simp;omega
         go_wp2_with fail
         with_reducible refine HSW.out.mono ?_
         rintro e w'' ⟨rfl,hw2,ha2⟩;have HW2:=Zh hw2;have HA2:=Zh (HA'.out.trans ha2);clear hw2 ha2 HW' HA' HSW
         go_wp2_with fail
         go_roundw
         case rel=>exact ⟨l,_,_,rfl,by omega,HW2.out,HST.out.1,by have:=HST.out.2;rw [Qeg,hlr] at this;exact this,fun k=>(HKM.out k).trans (HK.out k),HA2.out⟩
         case measure=>simp [intOf];omega
       · have e1:decide ((j:Int)<(m:Int))=false:=by simp;omega
         go_wp2_with fail
         with_reducible refine HSW.out.mono ?_
         rintro e w'' ⟨rfl,hw2,ha2⟩;have HW2:=Zh hw2;have HA2:=Zh (HA'.out.trans ha2);clear hw2 ha2 HW' HA' HSW
         go_wp2_with fail
         go_roundw
         case rel=>exact ⟨l,_,_,rfl,by omega,HW2.out,HST.out.1,by have:=HST.out.2;rw [Qeg,hlr] at this;exact this,fun k=>(HKM.out k).trans (HK.out k),HA2.out⟩
         case measure=>simp [intOf];omega
end
end Go.Proofs.YthoagdpakddbdaaGreatDoor
namespace Go.Proofs.YthoagdpakddbdaaGreatDoor
def Qqe (R:List Nat)(C:List Int)(k:Nat):Option Int:=if k∈R then C[k]? else none
section
variable {n k:Nat} {r st:List Nat} {cs:List Int} {x:Int}
theorem HpS.out (h:HpS n r cs st)(hk:k<n):st[k]?=some 0↔k ∉ r:=by
 obtain ⟨s,hs⟩:∃ s,st[k]?=some s:=⟨_,Qbd 0 (by rw [h.ls];exact hk)⟩
 constructor
 · intro h0 hm
   obtain ⟨i,hi⟩:=List.mem_iff_getElem?.1 hm;have:=(h.seat i k hi).2;rw [h0] at this
   injection this with this
   omega
 · intro hm
   rcases s with _|s
   · exact hs
   · exact absurd (List.mem_iff_getElem?.2 ⟨s,h.none_ k s hs⟩) hm
theorem HpS.in_ (h:HpS n r cs st)(hm:k∈r):∃ i,r[i]?=some k∧i<r.length∧k<n∧st[k]?=some (i+1):=by
 obtain ⟨i,hi⟩:=List.mem_iff_getElem?.1 hm;exact ⟨i,hi,(Zs hi).1,(h.seat i k hi).1,(h.seat i k hi).2⟩
theorem HpS.put (h:HpS n r cs st)(hk:k<n)(hn:k ∉ r):HpS n (r ++[k]) (cs.set k x) (st.set k (r.length+1)):=by
 refine ⟨by rw [List.length_set];exact h.lc,by rw [List.length_set];exact h.ls,fun i q hi=>?_,fun q i hq=>?_⟩
 · rw [List.getElem?_append] at hi
   by_cases hl:i<r.length
   · rw [if_pos hl] at hi
     have h1:=h.seat i q hi;have hne:k≠q:=fun e=>hn (e▸List.mem_iff_getElem?.2 ⟨i,hi⟩)
     exact ⟨h1.1,by rw [List.getElem?_set_ne hne];exact h1.2⟩
   · rw [if_neg hl] at hi
     have h2:i-r.length=0:=by
      rcases Nat.eq_zero_or_pos (i-r.length) with e|e
      · exact e
      · rw [List.getElem?_eq_none (by simp;omega)] at hi;cases hi
     rw [h2] at hi
     cases hi
     refine ⟨hk,?_⟩;rw [List.getElem?_set_self (by rw [h.ls];exact hk)]
     congr 1
     omega
 · by_cases e:k=q
   · subst e
     rw [List.getElem?_set_self (by rw [h.ls];exact hk)] at hq
     injection hq with hq
     have:i=r.length:=by omega
     subst this;simp
   · rw [List.getElem?_set_ne e] at hq
     have h1:=h.none_ q i hq;rw [List.getElem?_append_left (Zs h1).1];exact h1
theorem at_put (hn:k ∉ r):∀ i,i<r.length→at_ (r ++[k]) (cs.set k x) i=at_ r cs i:=fun i hi=>by
 have h1:=Qbd 0 hi;have hne:k≠r.getD i 0:=fun e=>hn (List.mem_iff_getElem?.2 ⟨i,by rw [e];exact h1⟩)
 unfold at_;rw [Qbu (d:=0) (show (r ++[k])[i]?=some (r.getD i 0) by rw [List.getElem?_append_left hi];exact h1),List.getD_eq_getElem?_getD,List.getElem?_set_ne hne,←List.getD_eq_getElem?_getD]
theorem ord_put (ho:Ord (at_ r cs) r.length) (hn:k ∉ r):UpO (at_ (r ++[k]) (cs.set k x)) (r.length+1) r.length:=ho.push (at_put hn)
theorem HpS.setC (h:HpS n r cs st):HpS n r (cs.set k x) st:=⟨by rw [List.length_set];exact h.lc,h.ls,h.seat,h.none_⟩
theorem ord_less (h:HpS n r cs st) (ho:Ord (at_ r cs) r.length) {i:Nat} (hi:r[i]?=some k) (hx:x≤at_ r cs i):UpO (at_ r (cs.set k x)) r.length i:=by
 have hl:=(Zs hi).1;have hk:=(h.seat i k hi).1;refine ho.lower (fun j hj hne=>?_) ?_ hl
 · have h1:=Qbd 0 hj
   have hne2:k≠r.getD j 0:=fun e=>hne (h.nodup (by rw [e];exact h1) hi)
   unfold at_;rw [List.getD_eq_getElem?_getD (l:=cs.set k x),List.getElem?_set_ne hne2,←List.getD_eq_getElem?_getD]
 · have:at_ r (cs.set k x) i=x:=by
    unfold at_;rw [Qbu hi];exact Qbu (by rw [List.getElem?_set_self (by rw [h.lc];exact hk)])
   rw [this];exact hx
def Qtb (hp:Nat→Option Int)(k:Nat)(x:Int):Nat→Option Int:=fun q=>if q=k then some (match hp k with|none=>x|some y=>if y≤x then y else x) else hp q
theorem Qri {r':List Nat}(hl:k<cs.length)(hm:∀ q,q∈r'↔q∈r∨q=k)(q:Nat):Qqe r' (cs.set k x) q=if q=k then some x else Qqe r cs q:=by
 unfold Qqe
 by_cases e:q=k
 · subst e
   rw [if_pos rfl,if_pos ((hm q).2 (.inr rfl)),List.getElem?_set_self hl]
 · rw [if_neg e,List.getElem?_set_ne (fun e2=>e e2.symm)]
   by_cases hq:q∈r
   · rw [if_pos ((hm q).2 (.inl hq)),if_pos hq]
   · rw [if_neg (fun h=>((hm q).1 h).elim hq e),if_neg hq]
theorem Qvm {y:Int}(hy:Qqe r cs k=some y):k∈r∧cs[k]?=some y:=by
 unfold Qqe at hy
 by_cases hm:k∈r
 · rw [if_pos hm] at hy;exact ⟨hm,hy⟩
 · rw [if_neg hm] at hy;cases hy
theorem inAt_out (h:HpS n r cs st)(hy:Qqe r cs k=none):k ∉ r:=fun hm=>by
 unfold Qqe at hy;rw [if_pos hm] at hy;obtain ⟨i,_,_,hk,_⟩:=h.in_ hm;rw [Qbd 0 (by rw [h.lc];exact hk)] at hy
 cases hy
def putB (hp:Nat→Option Int)(k:Nat)(x:Int):Bool:=match hp k with|none=>true|some y=>!decide (y≤x)
theorem Qrq (h:HpS n r cs st) (ho:Ord (at_ r cs) r.length) {y z:Int} {q:Nat} (hk:r[0]?=some k) (hx:cs[k]?=some y) (hq:Qqe r cs q=some z):y≤z:=by
 obtain ⟨hm,hz⟩:=Qvm hq;obtain ⟨i,hi,hl,_,_⟩:=h.in_ hm;have h1:=ho.root i hl;unfold at_ at h1;rw [Qbu hk,Qbu hi,Qbu hx,Qbu hz] at h1;exact h1
theorem HpS.pop {L:Nat}(h:HpS n r cs st)(hl:r.length=L+1) (hk:r[0]?=some k) :
 HpS n ((Qdl r 0 L).take L) cs ((Qii r st 0 L).set k 0)∧(∀ q,q∈(Qdl r 0 L).take L↔q∈r∧q≠k)∧∀ i,0<i→i<L→at_ ((Qdl r 0 L).take L) cs i=at_ r cs i:=by
 have h1:=h.swap (i:=0) (j:=L) (by omega) (by omega);have hg:∀ x,(Qdl r 0 L)[x]?=if x=L then some k else if x=0 then r[L]? else r[x]?:=fun x=>by rw [Qdb (by omega) (by omega),hk]
 have hL:(Qdl r 0 L)[L]?=some k:=by rw [hg,if_pos rfl]
 have hlen:(Qdl r 0 L).length=L+1:=by rw [Qeg];exact hl
 have hkn:k<(Qii r st 0 L).length:=by rw [h1.ls];exact (h.seat 0 k hk).1
 generalize hr1:Qdl r 0 L=r1 at *;generalize hs1:Qii r st 0 L=s1 at *;refine ⟨⟨h1.lc,by rw [List.length_set];exact h1.ls,fun i q hi=>?_,fun q i hq=>?_⟩,fun q=>⟨fun hq=>?_,fun hq=>?_⟩,fun i h0 hi=>?_⟩
 · rw [List.getElem?_take] at hi
   by_cases hil:i<L
   · rw [if_pos hil] at hi
     have hne:k≠q:=fun e=>by rw [←e] at hi;have:=h1.nodup hi hL;omega
     rw [List.getElem?_set_ne hne];exact h1.seat i q hi
   · rw [if_neg hil] at hi;cases hi
 · by_cases e:k=q
   · subst e
     rw [List.getElem?_set_self hkn] at hq
     injection hq with hq
     omega
   · rw [List.getElem?_set_ne e] at hq
     have h2:=h1.none_ q i hq;have hne:i≠L:=fun e2=>by rw [e2,hL] at h2;exact e (Option.some.inj h2)
     have:=(Zs h2).1;rw [List.getElem?_take,if_pos (by omega)];exact h2
 · obtain ⟨i,hi⟩:=List.mem_iff_getElem?.1 hq
   rw [List.getElem?_take] at hi
   by_cases hil:i<L
   · rw [if_pos hil] at hi
     refine ⟨?_,fun e=>by rw [e] at hi;have:=h1.nodup hi hL;omega⟩;have hi2:=hi;rw [hg,if_neg (by omega)] at hi2
     by_cases e:i=0
     · rw [if_pos e] at hi2;exact List.mem_iff_getElem?.2 ⟨_,hi2⟩
     · rw [if_neg e] at hi2;exact List.mem_iff_getElem?.2 ⟨_,hi2⟩
   · rw [if_neg hil] at hi;cases hi
 · obtain ⟨hm,hne⟩:=hq
   obtain ⟨i,hi⟩:=List.mem_iff_getElem?.1 hm;have hil:=(Zs hi).1;have hi0:i≠0:=fun e=>by rw [e,hk] at hi;exact hne (Option.some.inj hi).symm
   by_cases e:i=L
   · refine List.mem_iff_getElem?.2 ⟨0,?_⟩
     rw [List.getElem?_take,if_pos (by omega),hg,if_neg (by omega),if_pos rfl,←e];exact hi
   · refine List.mem_iff_getElem?.2 ⟨i,?_⟩
     rw [List.getElem?_take,if_pos (by omega),hg,if_neg e,if_neg hi0];exact hi
 · have h2:(r1.take L)[i]?=r[i]?:=by rw [List.getElem?_take,if_pos hi,hg,if_neg (by omega),if_neg (by omega)]
   unfold at_;rw [List.getD_eq_getElem?_getD (l:=r1.take L),h2,←List.getD_eq_getElem?_getD]
theorem HpS.popOrd {L:Nat}(h:HpS n r cs st) (ho:Ord (at_ r cs) (L+1)) (hl:r.length=L+1) (hk:r[0]?=some k):Qhh (at_ ((Qdl r 0 L).take L) cs) L 0:=ho.pop (h.pop hl hk).2.2
end
end Go.Proofs.YthoagdpakddbdaaGreatDoor
