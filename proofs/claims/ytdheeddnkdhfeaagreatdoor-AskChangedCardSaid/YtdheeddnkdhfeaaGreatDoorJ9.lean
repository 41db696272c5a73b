/- Parts of the proof: Ch6, Ch7, Ch8, As, Tl. -/
import Derived.Test.YtdheeddnkdhfeaaGreatDoorJ8
import Derived.Deep.RegionHeld3
import Derived.Deep.DrawnRows
namespace Go.Proofs.YtdheeddnkdhfeaaGreatDoor
open Go.RowKit Go.Proofs.Tryz
attribute [local go_sem ↓] Go.wp_at_zero Go.wp_at_succ
set_option maxHeartbeats 1000000 in
theorem Qvt (A B C:Option Addr)(n m k c d e:Nat)(a u:Int)(w:World) (h:¬(0≤a∧a<m)) :
 Calls prog 41 #[.agg #[.slice A n c,.slice B m d,.slice C k e],.int .i64 a,.int .i64 u] w fun r w'=>∃ A4 n4 m4,r=.returned (.tuple #[.agg #[.slice A n c,.slice B m d,.slice C k e],.agg #[.slice A4 n4 m4,.int .i64 5]])∧RdW w' A4 n4 [((⟨#[103,114,97,112,104]⟩:ByteArray),a)]∧n4≤1000000∧Below w.heap.size w w':=by
 have HT:=Zh (fun (V:World)=>Qeh A B C n m k c d e a V h);clear h
 go_enter func41,ntmps41
 go_wp2_with fail
 (refine Qab ?_;intro w1 hw1)
 have hb1:Below w.heap.size w w1:=by rw [hw1];exact Qag
 have hJ1:Blk w1 w.heap.size 26 #[.slice A n c,.slice B m d,.slice C k e]:=by rw [hw1];exact Qay
 have hR1:Blk w1 (w.heap.size+1) 26 #[.slice none 0 0,.slice none 0 0,.slice none 0 0]:=by rw [hw1];exact Qay
 have hX1:Blk w1 (w.heap.size+1+1) 66 #[.slice none 0 0,.int .i64 0]:=by rw [hw1];exact Qay
 have hz1:w.heap.size+3≤w1.heap.size:=by rw [hw1];simp
 clear hw1;with_reducible refine (HT.out w1).mono ?_
 rintro r w2 ⟨rfl,hb2⟩;have hb2':=Zb hb1 hb2;have hJ2:=hJ1.below hb2 hJ1.lt;have hR2:=hR1.below hb2 hR1.lt;have hX2:=hX1.below hb2 hX1.lt;have hz2:=Yx hz1 hb2.size;clear hb1 hb2 hJ1 hR1 hX1 hz1
 go_wp2_with fail
 have HSX:=Zh (show ∀ X,Blk X w.heap.size 26 #[.slice A n c,.slice B m d,.slice C k e]→X.cell? ⟨w.heap.size,0,none⟩=some (.slice A n c)∧X.cell? ⟨w.heap.size,1,none⟩=some (.slice B m d)∧X.cell? ⟨w.heap.size,2,none⟩=some (.slice C k e) from fun X hX=>hX.three)
 refine wp_region_held_drew (S:=fun X=>Blk X w.heap.size 26 #[.slice A n c,.slice B m d,.slice C k e]) (by kernel_rfl) hJ2.drew (fun _=>?_);refine tz 0 13 ?_;refine tz 1 14 ?_;refine Zk 2 (fun K hK=>?_);go_simp;have hbd:Below w2.heap.size w2 w2.drew:=(Zr _ _).drew;with_reducible refine (Qfo _ _ _ _).mono ?_
 rintro r w4 ⟨A4,n4,m4,rfl,h4,hA4,h5,hb⟩;have hb4:Below w2.heap.size w2 w4:=hbd.trans hb;have hb4':=Zb hb2' hb4;have hJ4:=hJ2.below hb4 hJ2.lt;have hR4:=hR2.below hb4 hR2.lt;have hX4:=hX2.below hb4 hX2.lt;have hz4:=hb4.size;have hA5:∀ b,Qac A4=some b→w.heap.size+3≤b∧b<w4.heap.size:=fun b e=>⟨Yx hz2 (hA4 b e).1,(hA4 b e).2⟩
 clear hb hbd hb4 hJ2 hR2 hX2 hA4
 go_wp2_with fail
 refine hK.out _ _ hJ4 (fun _=>?_);clear hK K;obtain ⟨r0,r1,r2⟩:=hR4.three;have fr0:=hR4.frozen 0;have fr1:=hR4.frozen 1;have fr2:=hR4.frozen 2;refine Zk 3 (fun K hK=>?_);go_simp;have hJ5:=((hJ4.far (p:=⟨w.heap.size+1,0,none⟩) (by simp only;omega) (.slice A n c)).far (p:=⟨w.heap.size+1,1,none⟩) (by simp only;omega) (.slice B m d)).far (p:=⟨w.heap.size+1,2,none⟩) (by simp only;omega) (.slice C k e);have hR5:=((hR4.set_ 0 (.slice A n c)).set_ 1 (.slice B m d)).set_ 2 (.slice C k e);have hX5:=((hX4.far (p:=⟨w.heap.size+1,0,none⟩) (by simp only;omega) (.slice A n c)).far (p:=⟨w.heap.size+1,1,none⟩) (by simp only;omega) (.slice B m d)).far (p:=⟨w.heap.size+1,2,none⟩) (by simp only;omega) (.slice C k e);have hb5:=((hb4'.setCell (p:=⟨w.heap.size+1,0,none⟩) (by simp only;omega) (.slice A n c)).setCell (p:=⟨w.heap.size+1,1,none⟩) (by simp only;omega) (.slice B m d)).setCell (p:=⟨w.heap.size+1,2,none⟩) (by simp only;omega) (.slice C k e);have hw5:=((h4.setFar (w.heap.size+1) 0 (.slice A n c) (fun b e=>⟨by have:=(hA5 b e).1;omega,(hA5 b e).2⟩)).setFar (w.heap.size+1) 1 (.slice B m d) (fun b e=>⟨by have:=(hA5 b e).1;omega,by simpa [World.setCell] using (hA5 b e).2⟩)).setFar (w.heap.size+1) 2 (.slice C k e) (fun b e=>⟨by have:=(hA5 b e).1;omega,by simpa [World.setCell] using (hA5 b e).2⟩);refine hK.out _ _ hJ5 (fun _=>?_);obtain ⟨W5,hW5⟩:∃ X,X=((w4.setCell ⟨w.heap.size+1,0,none⟩ (.slice A n c)).setCell ⟨w.heap.size+1,1,none⟩ (.slice B m d)).setCell ⟨w.heap.size+1,2,none⟩ (.slice C k e):=⟨_,rfl⟩;have hz5:w4.heap.size=W5.heap.size:=by rw [hW5];simp [World.setCell]
 rw [←hW5] at hJ5 hR5 hX5 hb5 hw5 ⊢;clear hK K hW5 r0 r1 r2 fr0 fr1 fr2 hR4 hX4 hJ4 h4 hb4';obtain ⟨x0,x1,fx0,fx1⟩:=hX5.two;refine Zk 4 (fun K hK=>?_);go_simp;refine hK.out _ _ ((hJ5.far (by simp only;omega) _).far (by simp only;omega) _) (fun _=>?_);clear hK K;refine Zd ?_
 go_wp2_with fail
 refine Qbu ?_;intro W hW;have hRW:Blk W (w.heap.size+1) 26 #[.slice A n c,.slice B m d,.slice C k e]:=by rw [hW];exact (hR5.far (by simp) _).far (by simp) _
 have hXW:Blk W (w.heap.size+1+1) 66 #[.slice A4 n4 m4,.int .i64 5]:=by rw [hW];exact (hX5.set_ 0 _).set_ 1 _
 have hbW:Below w.heap.size w W:=by rw [hW];exact (hb5.setCell (by simp only;omega) _).setCell (by simp only;omega) _
 have hwW:RdW W A4 n4 [((⟨#[103,114,97,112,104]⟩:ByteArray),a)]:=by
  rw [hW];exact (hw5.setFar (w.heap.size+1+1) 0 (.slice A4 n4 m4) (fun b e=>⟨by have:=(hA5 b e).1;omega,by rw [←hz5];exact (hA5 b e).2⟩)).setFar (w.heap.size+1+1) 1 (.int .i64 5) (fun b e=>⟨by have:=(hA5 b e).1;omega,by simpa [World.setCell,←hz5] using (hA5 b e).2⟩)
 clear hW hR5 hX5 hb5 hw5 x0 x1;obtain ⟨r0,r1,r2⟩:=hRW.three;obtain ⟨x0,x1,_,_⟩:=hXW.two;refine bodyPost_ret (v:=.tuple #[.agg #[.slice A n c,.slice B m d,.slice C k e],.agg #[.slice A4 n4 m4,.int .i64 5]]) (by simp [results,results41,go_sem,r0,r1,r2,x0,x1]) rfl ?_;exact ⟨_,_,_,rfl,hwW,h5,hbW⟩
set_option maxHeartbeats 1000000 in
theorem Qwa (A B C:Option Addr)(n m k c d e:Nat)(a u:Int)(w:World)(h0:0≤a)(h1:a<m)(hu:wOk u=false) :
 Calls prog 41 #[.agg #[.slice A n c,.slice B m d,.slice C k e],.int .i64 a,.int .i64 u] w fun r w'=>∃ A4 n4 m4,r=.returned (.tuple #[.agg #[.slice A n c,.slice B m d,.slice C k e],.agg #[.slice A4 n4 m4,.int .i64 8]])∧RdW w' A4 n4 [((⟨#[103,114,97,112,104]⟩:ByteArray),a)]∧n4≤1000000∧Below w.heap.size w w':=by
 have HT:=Zh (fun (V:World)=>Qbx A B C n m k c d e a V h0 h1)
 have HW:=Zh (show ∀ V,Calls prog 91 #[.int .i64 u] V fun e w'=>e=.returned (.bool false)∧V=w' from fun V=>by
  have:=Qci u V;rw [hu] at this;exact this)
 clear h0 h1 hu
 go_enter func41,ntmps41
 go_wp2_with fail
 (refine Qab ?_;intro w1 hw1)
 have hb1:Below w.heap.size w w1:=by rw [hw1];exact Qag
 have hJ1:Blk w1 w.heap.size 26 #[.slice A n c,.slice B m d,.slice C k e]:=by rw [hw1];exact Qay
 have hR1:Blk w1 (w.heap.size+1) 26 #[.slice none 0 0,.slice none 0 0,.slice none 0 0]:=by rw [hw1];exact Qay
 have hX1:Blk w1 (w.heap.size+1+1) 66 #[.slice none 0 0,.int .i64 0]:=by rw [hw1];exact Qay
 have hz1:w.heap.size+3≤w1.heap.size:=by rw [hw1];simp
 clear hw1;with_reducible refine (HT.out w1).mono ?_
 rintro r w2 ⟨rfl,hb2⟩;have hb2':=Zb hb1 hb2;have hJ2:=hJ1.below hb2 hJ1.lt;have hR2:=hR1.below hb2 hR1.lt;have hX2:=hX1.below hb2 hX1.lt;have hz2:=Yx hz1 hb2.size;clear hb1 hb2 hJ1 hR1 hX1 hz1
 go_wp2_with fail
 with_reducible refine (HW.out _).mono ?_
 rintro r w' ⟨rfl,rfl⟩
 go_wp2_with fail
 have HSX:=Zh (show ∀ X,Blk X w.heap.size 26 #[.slice A n c,.slice B m d,.slice C k e]→X.cell? ⟨w.heap.size,0,none⟩=some (.slice A n c)∧X.cell? ⟨w.heap.size,1,none⟩=some (.slice B m d)∧X.cell? ⟨w.heap.size,2,none⟩=some (.slice C k e) from fun X hX=>hX.three)
 refine wp_region_held_drew (S:=fun X=>Blk X w.heap.size 26 #[.slice A n c,.slice B m d,.slice C k e]) (by kernel_rfl) hJ2.drew (fun _=>?_);refine tz 0 19 ?_;refine tz 1 20 ?_;refine Zk 2 (fun K hK=>?_);go_simp;have hbd:Below w2.heap.size w2 w2.drew:=(Zr _ _).drew;with_reducible refine (Qfo _ _ _ _).mono ?_
 rintro r w4 ⟨A4,n4,m4,rfl,h4,hA4,h5,hb⟩;have hb4:Below w2.heap.size w2 w4:=hbd.trans hb;have hb4':=Zb hb2' hb4;have hJ4:=hJ2.below hb4 hJ2.lt;have hR4:=hR2.below hb4 hR2.lt;have hX4:=hX2.below hb4 hX2.lt;have hz4:=hb4.size;have hA5:∀ b,Qac A4=some b→w.heap.size+3≤b∧b<w4.heap.size:=fun b e=>⟨Yx hz2 (hA4 b e).1,(hA4 b e).2⟩
 clear hb hbd hb4 hJ2 hR2 hX2 hA4
 go_wp2_with fail
 refine hK.out _ _ hJ4 (fun _=>?_);clear hK K;obtain ⟨r0,r1,r2⟩:=hR4.three;have fr0:=hR4.frozen 0;have fr1:=hR4.frozen 1;have fr2:=hR4.frozen 2;refine Zk 3 (fun K hK=>?_);go_simp;have hJ5:=((hJ4.far (p:=⟨w.heap.size+1,0,none⟩) (by simp only;omega) (.slice A n c)).far (p:=⟨w.heap.size+1,1,none⟩) (by simp only;omega) (.slice B m d)).far (p:=⟨w.heap.size+1,2,none⟩) (by simp only;omega) (.slice C k e);have hR5:=((hR4.set_ 0 (.slice A n c)).set_ 1 (.slice B m d)).set_ 2 (.slice C k e);have hX5:=((hX4.far (p:=⟨w.heap.size+1,0,none⟩) (by simp only;omega) (.slice A n c)).far (p:=⟨w.heap.size+1,1,none⟩) (by simp only;omega) (.slice B m d)).far (p:=⟨w.heap.size+1,2,none⟩) (by simp only;omega) (.slice C k e);have hb5:=((hb4'.setCell (p:=⟨w.heap.size+1,0,none⟩) (by simp only;omega) (.slice A n c)).setCell (p:=⟨w.heap.size+1,1,none⟩) (by simp only;omega) (.slice B m d)).setCell (p:=⟨w.heap.size+1,2,none⟩) (by simp only;omega) (.slice C k e);have hw5:=((h4.setFar (w.heap.size+1) 0 (.slice A n c) (fun b e=>⟨by have:=(hA5 b e).1;omega,(hA5 b e).2⟩)).setFar (w.heap.size+1) 1 (.slice B m d) (fun b e=>⟨by have:=(hA5 b e).1;omega,by simpa [World.setCell] using (hA5 b e).2⟩)).setFar (w.heap.size+1) 2 (.slice C k e) (fun b e=>⟨by have:=(hA5 b e).1;omega,by simpa [World.setCell] using (hA5 b e).2⟩);refine hK.out _ _ hJ5 (fun _=>?_);obtain ⟨W5,hW5⟩:∃ X,X=((w4.setCell ⟨w.heap.size+1,0,none⟩ (.slice A n c)).setCell ⟨w.heap.size+1,1,none⟩ (.slice B m d)).setCell ⟨w.heap.size+1,2,none⟩ (.slice C k e):=⟨_,rfl⟩;have hz5:w4.heap.size=W5.heap.size:=by rw [hW5];simp [World.setCell]
 rw [←hW5] at hJ5 hR5 hX5 hb5 hw5 ⊢;clear hK K hW5 r0 r1 r2 fr0 fr1 fr2 hR4 hX4 hJ4 h4 hb4';obtain ⟨x0,x1,fx0,fx1⟩:=hX5.two;refine Zk 4 (fun K hK=>?_);go_simp;refine hK.out _ _ ((hJ5.far (by simp only;omega) _).far (by simp only;omega) _) (fun _=>?_);clear hK K;refine Zd ?_
 go_wp2_with fail
 refine Qbu ?_;intro W hW;have hRW:Blk W (w.heap.size+1) 26 #[.slice A n c,.slice B m d,.slice C k e]:=by rw [hW];exact (hR5.far (by simp) _).far (by simp) _
 have hXW:Blk W (w.heap.size+1+1) 66 #[.slice A4 n4 m4,.int .i64 8]:=by rw [hW];exact (hX5.set_ 0 _).set_ 1 _
 have hbW:Below w.heap.size w W:=by rw [hW];exact (hb5.setCell (by simp only;omega) _).setCell (by simp only;omega) _
 have hwW:RdW W A4 n4 [((⟨#[103,114,97,112,104]⟩:ByteArray),a)]:=by
  rw [hW];exact (hw5.setFar (w.heap.size+1+1) 0 (.slice A4 n4 m4) (fun b e=>⟨by have:=(hA5 b e).1;omega,by rw [←hz5];exact (hA5 b e).2⟩)).setFar (w.heap.size+1+1) 1 (.int .i64 8) (fun b e=>⟨by have:=(hA5 b e).1;omega,by simpa [World.setCell,←hz5] using (hA5 b e).2⟩)
 clear hW hR5 hX5 hb5 hw5 x0 x1;obtain ⟨r0,r1,r2⟩:=hRW.three;obtain ⟨x0,x1,_,_⟩:=hXW.two;refine bodyPost_ret (v:=.tuple #[.agg #[.slice A n c,.slice B m d,.slice C k e],.agg #[.slice A4 n4 m4,.int .i64 8]]) (by simp [results,results41,go_sem,r0,r1,r2,x0,x1]) rfl ?_;exact ⟨_,_,_,rfl,hwW,h5,hbW⟩
theorem Qbo.blk {G:Nat→Prop}{V W:World}(h:Qbo G V W){g:Nat}{t:TypeId}{cs:Array Value}(hb:Blk V g t cs)(hg:G g):Blk W g t cs:=(h.1 g hg hb.lt).trans hb
theorem Qbo.step {G:Nat→Prop}{U V W:World}(h:Qbo G U V)(hb:Below V.heap.size V W):Qbo G U W:=⟨h.1.trans (Qbb.below hb) h.2,Yx h.2 hb.size⟩
theorem Qsy {p q i o u x y:Int} (h:Qff p q i o u=some (x,y)):y=5∨y=8:=by
 unfold Qff at h
 split at h
 · cases h;exact .inl rfl
 · split at h
   · cases h;exact .inl rfl
   · split at h
     · cases h;exact .inr rfl
     · cases h
set_option maxHeartbeats 2000000 in
theorem Qvo (A B C:Option Addr)(n m k c d e:Nat)(p i o u:Int)(N:Qak) (ps:List (ByteArray×Int)) (c0:Int) (w:World) (h:Qbg w A B C n m k N) (hno:Qhu N p i o u=some (ps,c0)) :
 Calls prog 43 #[.agg #[.slice A n c,.slice B m d,.slice C k e],.int .i64 p,.int .i64 i,.int .i64 o,.int .i64 u] w fun r w'=>∃ A4 n4 m4,r=.returned (.tuple #[.agg #[.slice A n c,.slice B m d,.slice C k e],.agg #[.slice A4 n4 m4,.int .i64 c0]])∧RdW w' A4 n4 ps∧n4≤1000001∧Below w.heap.size w w':=by
 have hlk:N.ts.length=k:=h.2.2.1;have HH:=Zh h;clear h;unfold Qhu at hno;rw [hlk] at hno
 by_cases i1:p<0
 · rw [if_pos (.inl i1)] at hno
   exact Kaf
 by_cases i2:(k:Int)≤p
 · rw [if_pos (.inr i2)] at hno
   exact Kaf
 rw [if_neg (by omega)] at hno;obtain ⟨q,rfl⟩:∃ q:Nat,p=q:=⟨p.toNat,by omega⟩;obtain ⟨cb,co_,t,rfl,ht,c0',c1,A1,n1,cc1,c2,_,_⟩:=HH.out.2.2.at_ (i:=q) (by omega);simp only [Yl,ht] at hno
 cases hw:Qff t.ins t.outs i o u with
 | none=>rw [hw] at hno;cases hno
 | some xy =>
 rw [hw] at hno;obtain ⟨x,y⟩:=xy
 cases hno
 obtain ⟨c0,rfl⟩:∃ c0,c0=y:=⟨_,rfl⟩;have hcbl:cb<w.heap.size:=Qah c0'
 have HW:=Zh (fun V=>Qus A1 n1 cc1 t.ins t.outs i o u x c0 V hw);have hy:=Qsy hw;have i3:(0:Int)≤(q:Int):=by omega
 have i4:(q:Int)<(k:Int):=by omega
 have y0:(c0 != 0)=true:=by rcases hy with rfl|rfl <;> rfl
 have y1:(c0 == 0)=false:=by rcases hy with rfl|rfl <;> rfl
 have y2:c0≠0:=by rcases hy with rfl|rfl <;> decide
 have HY2:=Zh y2;clear hw ht y2 hy;have al0:=fun a b c=>Zc (w':=((w.alloc a).alloc b).alloc c) (Bel.alloc (Bel.alloc (Bel.alloc (Zr _ _)))) (Zn _) c0'
 have al1:=fun a b c=>Zc (w':=((w.alloc a).alloc b).alloc c) (Bel.alloc (Bel.alloc (Bel.alloc (Zr _ _)))) (Zn _) c1
 have al2:=fun a b c=>Zc (w':=((w.alloc a).alloc b).alloc c) (Bel.alloc (Bel.alloc (Bel.alloc (Zr _ _)))) (Zn _) c2
 clear c0' c1 c2
 go_enter func43,ntmps43
 go_wp2_with fail
 (refine Qab ?_;intro w1 hw1)
 have hb1:Below w.heap.size w w1:=by rw [hw1];exact Qag
 have hJ1:Blk w1 w.heap.size 26 #[.slice A n c,.slice B m d,.slice (some ⟨cb,co_,none⟩) k e]:=by rw [hw1];exact Qay
 have hR1:Blk w1 (w.heap.size+1) 26 #[.slice none 0 0,.slice none 0 0,.slice none 0 0]:=by rw [hw1];exact Qay
 have hX1:Blk w1 (w.heap.size+1+1) 66 #[.slice none 0 0,.int .i64 0]:=by rw [hw1];exact Qay
 have hz1:w.heap.size+3≤w1.heap.size:=by rw [hw1];simp
 clear hw1 al0 al1 al2;with_reducible refine (HW.out w1).mono ?_
 rintro r w3 ⟨A3,n3,m3,rfl,hr3,hn3,hb3⟩;have hb3':=Zb hb1 hb3;have hJ3:=hJ1.below hb3 hJ1.lt;have hR3:=hR1.below hb3 hR1.lt;have hX3:=hX1.below hb3 hX1.lt;have hz3:=Yx hz1 hb3.size;clear hb1 hb3 hJ1 hR1 hX1 hz1;have HR3:=Zh hr3;clear hr3
 go_wp2_with fail
 (refine Qai ?_;intro w2 hw2)
 have hb2:Below w3.heap.size w3 w2:=by rw [hw2];exact Qag
 have hW2:Blk w2 (w3.heap.size+1) 66 #[.slice A3 n3 m3,.int .i64 c0]:=by rw [hw2];exact Qay
 have hb2':=Zb hb3' hb2;have hJ2:=hJ3.below hb2 hJ3.lt;have hR2:=hR3.below hb2 hR3.lt;have hX2:=hX3.below hb2 hX3.lt;have hz2:=Yx hz3 hb2.size;have HR2:=Zh (HR3.out.below hb2);obtain ⟨gt,hgt⟩:∃ x,x=w3.heap.size+1:=⟨_,rfl⟩;rw [←hgt] at hW2 ⊢;have hgz:w.heap.size+3≤gt:=by omega
 clear hw2 hb2 hJ3 hR3 hX3 hb3' HR3 hgt hz3
 have HSX:=Zh (show ∀ X,Qbo (fun b=>b≠w.heap.size+1∧b≠w.heap.size+1+1) w2 X→X.cell? ⟨w.heap.size,0,none⟩=some (.slice A n c)∧X.cell? ⟨w.heap.size,1,none⟩=some (.slice B m d)∧X.cell? ⟨w.heap.size,2,none⟩=some (.slice (some ⟨cb,co_,none⟩) k e)∧X.cell? ⟨gt,0,none⟩=some (.slice A3 n3 m3)∧X.cell? ⟨gt,1,none⟩=some (.int .i64 c0) from fun X hX=>by
  obtain ⟨h0,h1,h2⟩:=(hX.blk hJ2 ⟨by omega,by omega⟩).three;obtain ⟨g0,g1,_,_⟩:=(hX.blk hW2 ⟨by omega,by omega⟩).two;exact ⟨h0,h1,h2,g0,g1⟩)
 go_wp2_with fail
 refine wp_region_held_drew (S:=fun X=>Qbo (fun b=>b≠w.heap.size+1∧b≠w.heap.size+1+1) w2 X) (by kernel_rfl) ⟨Qbb.refl _ _,Zn _⟩ (fun _=>?_);refine tz 0 42 ?_;refine tz 1 43 ?_;refine tz 2 44 ?_;refine Zk 3 (fun K hK=>?_);go_simp;have hbd:Below w2.heap.size w2 w2.drew:=(Zr _ _).drew;with_reducible refine (Qra _ _ _ _ _ _ _ _ HY2.out (HR2.out.below hbd) hn3).mono ?_
 rintro r w4 ⟨A4,m4,rfl,h4,hA4,hb⟩;obtain ⟨n4,hn4⟩:∃ n4,n4=1+n3:=⟨_,rfl⟩;have h5:n4≤1000001:=by omega
 rw [←hn4] at h4 ⊢;have hb4:Below w2.heap.size w2 w4:=hbd.trans hb;have hb4':=Zb hb2' hb4;have hS4:Qbo (fun b=>b≠w.heap.size+1∧b≠w.heap.size+1+1) w2 w4:=(Qbo.refl _ _).step hb4;have hR4:=hR2.below hb4 hR2.lt;have hX4:=hX2.below hb4 hX2.lt;have hz4:=hb4.size;have hA5:∀ b,Qac A4=some b→w.heap.size+3≤b∧b<w4.heap.size:=fun b e=>⟨Yx hz2 (hA4 b e).1,(hA4 b e).2⟩
 clear hb hbd hb4 hJ2 hR2 hX2 hA4 hn4
 go_wp2_with fail
 refine hK.out _ _ hS4 (fun _=>?_);clear hK K;obtain ⟨r0,r1,r2⟩:=hR4.three;have fr0:=hR4.frozen 0;have fr1:=hR4.frozen 1;have fr2:=hR4.frozen 2;refine Zk 4 (fun K hK=>?_);go_simp;have hS5:=((hS4.set (g:=w.heap.size+1) (by simp) 0 (.slice A n c)).set (g:=w.heap.size+1) (by simp) 1 (.slice B m d)).set (g:=w.heap.size+1) (by simp) 2 (.slice (some ⟨cb,co_,none⟩) k e);have hR5:=((hR4.set_ 0 (.slice A n c)).set_ 1 (.slice B m d)).set_ 2 (.slice (some ⟨cb,co_,none⟩) k e);have hX5:=((hX4.far (p:=⟨w.heap.size+1,0,none⟩) (by simp only;omega) (.slice A n c)).far (p:=⟨w.heap.size+1,1,none⟩) (by simp only;omega) (.slice B m d)).far (p:=⟨w.heap.size+1,2,none⟩) (by simp only;omega) (.slice (some ⟨cb,co_,none⟩) k e);have hb5:=((hb4'.setCell (p:=⟨w.heap.size+1,0,none⟩) (by simp only;omega) (.slice A n c)).setCell (p:=⟨w.heap.size+1,1,none⟩) (by simp only;omega) (.slice B m d)).setCell (p:=⟨w.heap.size+1,2,none⟩) (by simp only;omega) (.slice (some ⟨cb,co_,none⟩) k e);have hw5:=((h4.setFar (w.heap.size+1) 0 (.slice A n c) (fun b e=>⟨by have:=(hA5 b e).1;omega,(hA5 b e).2⟩)).setFar (w.heap.size+1) 1 (.slice B m d) (fun b e=>⟨by have:=(hA5 b e).1;omega,by simpa [World.setCell] using (hA5 b e).2⟩)).setFar (w.heap.size+1) 2 (.slice (some ⟨cb,co_,none⟩) k e) (fun b e=>⟨by have:=(hA5 b e).1;omega,by simpa [World.setCell] using (hA5 b e).2⟩);refine hK.out _ _ hS5 (fun _=>?_);obtain ⟨W5,hW5⟩:∃ X,X=((w4.setCell ⟨w.heap.size+1,0,none⟩ (.slice A n c)).setCell ⟨w.heap.size+1,1,none⟩ (.slice B m d)).setCell ⟨w.heap.size+1,2,none⟩ (.slice (some ⟨cb,co_,none⟩) k e):=⟨_,rfl⟩;have hz5:w4.heap.size=W5.heap.size:=by rw [hW5];simp [World.setCell]
 rw [←hW5] at hS5 hR5 hX5 hb5 hw5 ⊢;clear hK K hW5 r0 r1 r2 fr0 fr1 fr2 hR4 hX4 hS4 h4 hb4';obtain ⟨x0,x1,fx0,fx1⟩:=hX5.two;refine Zk 5 (fun K hK=>?_);go_simp;refine hK.out _ _ ((hS5.set (by simp) _ _).set (by simp) _ _) (fun _=>?_);clear hK K;refine Zd ?_
 go_wp2_with fail
 refine Qbu ?_;intro W hW;have hRW:Blk W (w.heap.size+1) 26 #[.slice A n c,.slice B m d,.slice (some ⟨cb,co_,none⟩) k e]:=by rw [hW];exact (hR5.far (by simp) _).far (by simp) _
 have hXW:Blk W (w.heap.size+1+1) 66 #[.slice A4 n4 m4,.int .i64 c0]:=by rw [hW];exact (hX5.set_ 0 _).set_ 1 _
 have hbW:Below w.heap.size w W:=by rw [hW];exact (hb5.setCell (by simp only;omega) _).setCell (by simp only;omega) _
 have hwW:RdW W A4 n4 [((⟨#[103,114,97,112,104]⟩:ByteArray),(q:Int)),((⟨#[116,117,114,110]⟩:ByteArray),x)]:=by
  rw [hW];exact (hw5.setFar (w.heap.size+1+1) 0 (.slice A4 n4 m4) (fun b e=>⟨by have:=(hA5 b e).1;omega,by rw [←hz5];exact (hA5 b e).2⟩)).setFar (w.heap.size+1+1) 1 (.int .i64 c0) (fun b e=>⟨by have:=(hA5 b e).1;omega,by simpa [World.setCell,←hz5] using (hA5 b e).2⟩)
 clear hW hR5 hX5 hb5 hw5 x0 x1;obtain ⟨r0,r1,r2⟩:=hRW.three;obtain ⟨x0,x1,_,_⟩:=hXW.two;refine bodyPost_ret (v:=.tuple #[.agg #[.slice A n c,.slice B m d,.slice (some ⟨cb,co_,none⟩) k e],.agg #[.slice A4 n4 m4,.int .i64 c0]]) (by simp [results,results43,go_sem,r0,r1,r2,x0,x1]) rfl ?_;exact ⟨_,_,_,rfl,hwW,by omega,hbW⟩
theorem Raf {w4 W:World}{z B tb n m k c' d' e' K p j n2 c2:Nat}{A' B' A2:Option Addr}{xs:List Value}{N:Qak}{t:Qcv}{u:Int}(hz:z+3≤B)(hK:B≤K)
 (hV:Own w4 B 124 3 A' n c' (Qap N.vs)) (hA:Own w4 B 119 3 B' m d' (Qap N.ar)) (hY:YwR w4 K (some ⟨tb,0,none⟩) k e' xs N.ts)
 (hVK:∀ g,Qac A'=some g→g<K) (hAK:∀ g,Qac B'=some g→g<K) (ht:N.ts[p]?=some t)
 (hown:Own w4 (z+3) 2 1 A2 n2 c2 (Qaf (t.turn j u).costs)) (hne:∀ g,Qac A2=some g→g<K)
 (hS:Qbo (fun b=>z+3≤b) (set3 w4 tb (p*3) (.int .i64 t.ins) (.int .i64 t.outs) (.slice A2 n2 c2)) W) :
 Qbg (msk W (fun b=>z≤b)) A' B' (some ⟨tb,0,none⟩) n m k (N.bend p (t.turn j u)):=by
 have htb:K≤tb:=(hY.1.lt tb rfl).1;have htl:tb<w4.heap.size:=(hY.1.lt tb rfl).2
 have hk1:Qbb (fun b=>b≠tb) w4 (set3 w4 tb (p*3) (.int .i64 t.ins) (.int .i64 t.outs) (.slice A2 n2 c2)):=(Qbb.refl _ _).set3 (Zn _) (fun h=>h rfl) _ _ _ _;have hsz:=Qlp w4 tb (p*3) (.int .i64 t.ins) (.int .i64 t.outs) (.slice A2 n2 c2);have hk2:∀ b,z+3≤b→b≠tb→b<w4.heap.size→W.heap[b]?=w4.heap[b]?:=fun b h1 h2 h3=>(hS.1 b h1 (by rw [hsz];exact h3)).trans (hk1 b h2 h3)
 have hV1:Rd3 W A' n N.vs:=(Rds.rd3 hV.rds).keep (fun b e=>hk2 b (by have:=(hV.lt b e).1;omega) (by have:=hVK b e;omega) (hV.lt b e).2);have hA1:Rd3 W B' m N.ar:=(Rds.rd3 hA.rds).keep (fun b e=>hk2 b (by have:=(hA.lt b e).1;omega) (by have:=hAK b e;omega) (hA.lt b e).2);have hR1:RdI W A2 n2 (t.turn j u).costs:=(hown.rds.rdI).keepB (fun b e=>hk2 b (hown.lt b e).1 (by have:=hne b e;omega) (hown.lt b e).2)
 have hm:Le (msk w4 (fun b=>z+3≤b∧b≠tb)) (msk W (fun b=>z≤b)):=fun a v hc=>by
  obtain ⟨⟨h1,h2⟩,h3⟩:=Qal.1 hc;refine Qal.2 ⟨by omega,?_⟩;rw [World.cell?_of_block (hk2 _ h1 h2 (Qah h3))];exact h3
 have hY1:=hY.rdY2 (G:=fun b=>z+3≤b∧b≠tb) (fun b hb hne'=>⟨by omega,fun e=>hne' (by rw [e];rfl)⟩);have hY2:=hY1.setT (t':=t.turn j u) ht hm (hR1.msk (fun b e=>by have:=(hown.lt b e).1;omega)) ⟨hown.cap,hown.capMax⟩;rw [Yz] at hY2;refine ⟨hV1.msk (fun b e=>by have:=(hV.lt b e).1;omega),hA1.msk (fun b e=>by have:=(hA.lt b e).1;omega),Qua.mskd (hY2.le (fun b o x hb hc=>?_) (Le.refl _)) (fun b e=>?_)⟩
 · cases hb
   exact Qcb (hS.1 tb (by omega) (by rw [hsz];exact htl)) hc
 · cases e
   show z≤tb
   omega
set_option maxHeartbeats 2000000 in
theorem Qws (A B C:Option Addr)(n m k c d e p i o ti to_:Nat)(cs:List Int)(u:Int)(N:Qak)(w:World)(h:Qbg w A B C n m k N)(hn:n≤1000000)(hm:m≤1000000)(hk:k≤1000000)(hc:∀ t∈N.ts,t.costs.length≤1000000) (ht:N.ts[p]?=some ⟨ti,to_,cs⟩) (hT:Qhf ⟨ti,to_,cs⟩) (hi:i<ti) (ho:o<to_) (hu:wOk u=true) :
 Calls prog 43 #[.agg #[.slice A n c,.slice B m d,.slice C k e],.int .i64 p,.int .i64 i,.int .i64 o,.int .i64 u] w fun r w'=>∃ A' B' C' c' d' e',r=.returned (.tuple #[.agg #[.slice A' n c',.slice B' m d',.slice C' k e'],.agg #[.slice none 0 0,.int .i64 0]])∧Qbg (msk w' (fun b=>w.heap.size≤b)) A' B' C' n m k (N.bend p ((⟨ti,to_,cs⟩:Qcv).turn (i*to_+o) u))∧Below w.heap.size w w':=by
 have hpk:p<k:=by have:=(Zs ht).1;rw [h.2.2.1] at this;exact this
 obtain ⟨cb,co_,eC,c0',c1,A1,n1,cc1,c2,hr1,_,_⟩:=h.2.2.2 p _ ht;subst eC;simp only at c0' c1 c2 hr1;have HCN:=Zh (fun (V:World) (hV:Below w.heap.size w V)=>Qlc A B _ n m k c d e N V (h.below hV) hn hm hk hc);have HWT:=Zh (fun (V:World) (hV:Below w.heap.size w V)=>Qvz A1 n1 cc1 ti to_ i o cs u V (hr1.below hV) hT hi ho hu);have HTT:=Zh ht;have i3:(0:Int)≤(p:Int):=by omega
 have i4:(p:Int)<(k:Int):=by omega
 have i5:¬((p:Int)<0):=by omega
 have i6:¬((k:Int)≤(p:Int)):=by omega
 have al0:=fun a b c=>Zc (w':=((w.alloc a).alloc b).alloc c) (Bel.alloc (Bel.alloc (Bel.alloc (Zr _ _)))) (Zn _) c0'
 have al1:=fun a b c=>Zc (w':=((w.alloc a).alloc b).alloc c) (Bel.alloc (Bel.alloc (Bel.alloc (Zr _ _)))) (Zn _) c1
 have al2:=fun a b c=>Zc (w':=((w.alloc a).alloc b).alloc c) (Bel.alloc (Bel.alloc (Bel.alloc (Zr _ _)))) (Zn _) c2
 clear h hn hm hk hc ht hT hi ho hu c0' c1 c2 hr1
 go_enter func43,ntmps43
 go_wp2_with fail
 (refine Qab ?_;intro w1 hw1)
 have hb1:Below w.heap.size w w1:=by rw [hw1];exact Qag
 have hJ1:Blk w1 w.heap.size 26 #[.slice A n c,.slice B m d,.slice (some ⟨cb,co_,none⟩) k e]:=by rw [hw1];exact Qay
 have hR1:Blk w1 (w.heap.size+1) 26 #[.slice none 0 0,.slice none 0 0,.slice none 0 0]:=by rw [hw1];exact Qay
 have hX1:Blk w1 (w.heap.size+1+1) 66 #[.slice none 0 0,.int .i64 0]:=by rw [hw1];exact Qay
 have hz1:w.heap.size+3≤w1.heap.size:=by rw [hw1];simp
 clear hw1 al0 al1 al2;with_reducible refine (HWT.out w1 hb1).mono ?_
 rintro r w3 ⟨A2,c2,rfl,hown,hb3⟩;have hb3':=Zb hb1 hb3;have hJ3:=hJ1.below hb3 hJ1.lt;have hR3:=hR1.below hb3 hR1.lt;have hX3:=hX1.below hb3 hX1.lt;have hz3:=Yx hz1 hb3.size;have HO:=Zh (hown.mono hz1);clear hb1 hb3 hJ1 hR1 hX1 hz1 hown HWT;obtain ⟨j0,j1,j2⟩:=hJ3.three;have zJ:=hJ3.lt
 go_wp2_with fail
 (refine Qab ?_;intro w2 hw2)
 have hb2:Below w3.heap.size w3 w2:=by rw [hw2];exact Qag
 have hT2:Blk w2 w3.heap.size 122 #[.int .i64 ti,.int .i64 to_,.slice A2 n1 c2]:=by rw [hw2];exact Qay
 have hb2':=Zb hb3' hb2;have hR2:=hR3.below hb2 hR3.lt;have hX2:=hX3.below hb2 hX3.lt;have hz2:=Yx hz3 hb2.size;have HO2:=Zh (HO.out.below hb2);obtain ⟨gt,hgt⟩:∃ x,x=w3.heap.size:=⟨_,rfl⟩;rw [←hgt] at hT2 ⊢;have hgz:w.heap.size+3≤gt:=by omega
 clear hw2 hb2 hJ3 hR3 hX3 hb3' HO hgt hz3 j0 j1 j2 zJ;with_reducible refine (HCN.out w2 hb2').mono ?_
 rintro r w4 ⟨A',B',C',c',d',e',K,xs,rfl,hK,hV,hA,hY,hdj,hVK,hAK,hb4⟩;have hb4':=Zb hb2' hb4;have hR4:=hR2.below hb4 hR2.lt;have hX4:=hX2.below hb4 hX2.lt;have hT4:=hT2.below hb4 hT2.lt;have hgl:=hT2.lt;have hz4:=Yx hz2 hb4.size;have HO4:=Zh (HO2.out.below hb4);have HNE:=Zh (show ∀ g,Qac A2=some g→g<K from fun g hg=>Yu (HO2.out.lt g hg).2 hK)
 clear hR2 hX2 hT2 hb4 HCN HO2 hb2';obtain ⟨tb,cur,rfl,hg0,htb,_,hcz,hcu⟩:=hY.1.block (by omega);obtain ⟨v0,hv0⟩:∃ v0,cur[p*3]?=some v0:=⟨_,Array.getElem?_eq_getElem (by omega)⟩;obtain ⟨v1,hv1⟩:∃ v1,cur[p*3+1]?=some v1:=⟨_,Array.getElem?_eq_getElem (by omega)⟩;obtain ⟨v2,hv2⟩:∃ v2,cur[p*3+2]?=some v2:=⟨_,Array.getElem?_eq_getElem (by omega)⟩;have ck0:w4.cell? ⟨tb,p*3,none⟩=some v0:=by rw [htb.cell];exact hv0
 have ck1:w4.cell? ⟨tb,p*3+1,none⟩=some v1:=by rw [htb.cell];exact hv1
 have ck2:w4.cell? ⟨tb,p*3+2,none⟩=some v2:=by rw [htb.cell];exact hv2
 have fk0:=htb.frozen (p*3);have fk1:=htb.frozen (p*3+1);have fk2:=htb.frozen (p*3+2);have htl:=htb.lt;have zR:=hR4.lt;have zX:=hX4.lt;have zT:=hT4.lt;obtain ⟨t0,t1,t2⟩:=hT4.three;obtain ⟨r0,r1,r2⟩:=hR4.three;have fr0:=hR4.frozen 0;have fr1:=hR4.frozen 1;have fr2:=hR4.frozen 2;obtain ⟨x0,x1,fx0,fx1⟩:=hX4.two;have ne1:¬tb=w.heap.size+1:=by omega
 have ne2:¬tb=w.heap.size+1+1:=by omega
 have ne3:¬w.heap.size+1=tb:=by omega
 have ne4:¬w.heap.size+1+1=tb:=by omega
 have ne5:¬tb=w4.heap.size:=by omega
 have ne6:¬gt=w4.heap.size:=by omega
 have HV:=Zh hV;have HA:=Zh hA;have HY:=Zh hY;have HVK:=Zh hVK;have HAK:=Zh hAK;have HR4:=Zh hR4;have HX4:=Zh hX4;clear hV hA hY hdj hVK hAK htb hcz hcu hv0 hv1 hv2 hR4 hX4 hT4
 go_wp2_with fail
 refine Qbu ?_;intro W hW
 have hRW:Blk W (w.heap.size+1) 26 #[.slice A' n c',.slice B' m d',.slice (some ⟨tb,0,none⟩) k e']:=by
  rw [hW];exact ((((((((HR4.out.far (by simp only;omega) _).far (by simp only;omega) _).far (by simp only;omega) _).set_ 0 _).set_ 1 _).set_ 2 _).far (by simp) _).far (by simp) _).alloc _
 have hXW:Blk W (w.heap.size+1+1) 66 #[.slice none 0 0,.int .i64 0]:=by
  rw [hW];exact ((((((((HX4.out.far (by simp only;omega) _).far (by simp only;omega) _).far (by simp only;omega) _).far (by simp) _).far (by simp) _).far (by simp) _).set_ 0 _).set_ 1 _).alloc _
 have hS:Qbo (fun b=>w.heap.size+3≤b) (set3 w4 tb (p*3) (.int .i64 ti) (.int .i64 to_) (.slice A2 n1 c2)) W:=by
  rw [hW];exact ((((((Qbo.refl _ _).set (by omega) _ _).set (by omega) _ _).set (by omega) _ _).set (by omega) _ _).set (by omega) _ _).step ((Zr _ _).alloc (Zn _) _)
 have hbW:Below w.heap.size w W:=by
  rw [hW];exact Bel.alloc ((((((Qna hb4' (by omega) _ _ _ _).setCell (by simp only;omega) _).setCell (by simp only;omega) _).setCell (by simp only;omega) _).setCell (by simp only;omega) _).setCell (by simp only;omega) _)
 have hNW:=Raf (t:=⟨ti,to_,cs⟩) (j:=i*to_+o) (u:=u) hz2 hK HV.out HA.out HY.out HVK.out HAK.out HTT.out HO4.out HNE.out hS;clear hW hS r0 r1 r2 x0 x1;obtain ⟨r0,r1,r2⟩:=hRW.three;obtain ⟨x0,x1,_,_⟩:=hXW.two;refine bodyPost_ret (v:=.tuple #[.agg #[.slice A' n c',.slice B' m d',.slice (some ⟨tb,0,none⟩) k e'],.agg #[.slice none 0 0,.int .i64 0]]) (by simp [results,results43,go_sem,r0,r1,r2,x0,x1]) rfl ?_;exact ⟨A',_,_,c',d',e',rfl,hNW,hbW⟩
end Go.Proofs.YtdheeddnkdhfeaaGreatDoor
namespace Go.Proofs.YtdheeddnkdhfeaaGreatDoor
open Go.RowKit Go.Extern.Stop Go.Stop Go.Extern Go.Proofs.Tryz
theorem Qtd (z:Sem Value)(f:TypeId→Addr→Nat→Nat→Sem Value)(v:Value) :
 ReflectliteValue.method z f #[v]=(do match ←ReflectliteValue.parts v with|none=>z|some (t,a,fl)=>f t a fl (fl % 32)):=rfl
theorem as_rls (v x:Value):ReflectliteValue.set #[v,x]=(do
 let (some (dst,a,fl),some (src,b,_)):=(←ReflectliteValue.parts v,←ReflectliteValue.parts x)
  | unsupported (.noEntry "extern/(internal/reflectlite.Value).Set.zeroValue")
 if fl / ReflectliteValue.flagAddr % 2 == 0 then unsupported (.noEntry "extern/(internal/reflectlite.Value).Set.unaddressable")
 let val ←loadVar src b
 if ←Rtype.directlyAssignable dst src then storeVar dst a val
 else if ←Rtype.implements dst src then
  if (←Rtype.kind src) == 20 then
   match val with
   | .nilIface => unsupported (.noEntry "extern/reflectlite: a nil value of one interface type handed on as a value of another")
   | _=>storeVar dst a val
  else storeVar dst a (.iface src val)
 else panicString ("reflectlite.Set: value of type " ++ (← Rtype.spelt src) ++ " is not assignable to type " ++ (← Rtype.spelt dst))
 pure (.tuple #[])):=rfl
theorem Qnx (h : Value) (w : World) : (Go.method 463 281 (.agg #[h]) "Kind").run Tryz.prog w = .ok (231, h) w := by kernel_rfl
theorem Qoj (h : Value) (w : World) : (Go.method 463 281 (.agg #[h]) "Elem").run Tryz.prog w = .ok (243, .agg #[h]) w := by kernel_rfl
theorem Qew (h : Value) (w : World) : (Go.method 463 281 (.agg #[h]) "Implements").run Tryz.prog w = .ok (244, .agg #[h]) w := by kernel_rfl
theorem Qdt (h : Value) (w : World) : (Go.method 463 281 (.agg #[h]) "AssignableTo").run Tryz.prog w = .ok (241, .agg #[h]) w := by kernel_rfl
def Qjb:Value:=.iface 281 (.agg #[.pointer (some ⟨1,44,none⟩)])
abbrev rty (t:Nat):Value:=.agg #[.pointer (some ⟨1,t,none⟩)]
abbrev rtv (t:Nat):Value:=.iface 281 (rty t)
abbrev rvl (t:Nat) (a:Addr) (f:Int):Value:=.agg #[.pointer (some ⟨1,t,none⟩),.pointer (some a),.int .u64 f]
abbrev asW (t:Addr) (p:Nat) (w:World):World:=((w.alloc (.cells #[.pointer (some t)] p)).alloc (.cells #[.pointer (some ⟨1,p,none⟩),.pointer (some ⟨w.heap.size,0,none⟩),.int .u64 150] 232))
abbrev asX (t:Addr) (p:Nat) (w:World):World:=(asW t p w).alloc (.cells #[.pointer (some ⟨1,p,none⟩),.pointer (some ⟨w.heap.size,0,none⟩),.int .u64 150] 232)
/-! ### at **api.Fault -/
theorem Qjg (t:Addr)(w:World):(ReflectliteValue.unpack (.iface 148 (.pointer (some t)))).run prog w=.ok (rvl 148 ⟨w.heap.size,0,none⟩ 150) (w.alloc (.cells #[.pointer (some t)] 148)):=by kernel_rfl
theorem Qpw (a : Addr) (w : World) : (ReflectliteValue.methodAny (ReflectliteValue.valueError "reflectlite.Value.Type" 0) (fun t _ _ _ => ReflectliteType.toType t) #[rvl 148 a 150]).run Tryz.prog w = .ok (rtv 148) w := by kernel_rfl
theorem Qpj (w:World):((ReflectliteType.abiMethod fun t=>(fun a:Nat=>Value.int IntKind.u8 (a:Int)) <$> Rtype.kind t) #[.pointer (some ⟨1,148,none⟩)]).run prog w=.ok (.int .u8 22) w:=by kernel_rfl
theorem Qug (w:World):((ReflectliteType.abiMethod fun t=>(fun a:Nat=>Value.int IntKind.u8 (a:Int)) <$> Rtype.kind t) #[.pointer (some ⟨1,146,none⟩)]).run prog w=.ok (.int .u8 22) w:=by kernel_rfl
theorem Qmt (a:Addr)(w:World):(ReflectliteValue.parts (rvl 148 a 150)).run prog w=.ok (some (148,a,150)) w:=by kernel_rfl
theorem Qqm (a p:Addr)(W:World) (ha:W.cell? a=some (.pointer (some p))) :
 (ReflectliteValue.method (ReflectliteValue.valueError "reflectlite.Value.IsNil" 0) ReflectliteValue.isNil #[rvl 148 a 150]).run Tryz.prog W = .ok (.bool false) W := by
 rw [Qtd];simp only [Sem.run_bind,Qmt,Result.andThen];simp [ReflectliteValue.isNil,loadVar,isAgg,underlying,underlying148,ha,Result.andThen]
theorem Qtx (w:World):(ReflectliteType.method ReflectliteType.elem #[rty 148]).run prog w=.ok (rtv 146) w:=by kernel_rfl
theorem Qhc (w : World) : (ReflectliteType.relation "Implements" ReflectliteType.implements_ #[rty 146, Qjb]).run Tryz.prog w = .ok (.bool true) w := by kernel_rfl
theorem Quq (w:World):(Rtype.elem? 148).run prog w=.ok (some 146) w:=by kernel_rfl
theorem as_mkF (p:Addr)(w:World):(ReflectliteValue.mk 146 p ReflectliteValue.flagAddr).run prog w=.ok (rvl 146 p 406) w:=by kernel_rfl
theorem Qyg (a p:Addr)(W:World) (ha:W.cell? a=some (.pointer (some p))) :
 (ReflectliteValue.method (ReflectliteValue.valueError "reflectlite.Value.Elem" 0) ReflectliteValue.elem #[rvl 148 a 150]).run Tryz.prog W = .ok (rvl 146 p 406) W := by
 rw [Qtd];simp only [Sem.run_bind,Qmt,Result.andThen];simp [ReflectliteValue.elem,loadVar,isAgg,underlying,underlying148,ha,Result.andThen,Quq,as_mkF]
theorem Qvm (v:Value)(w:World):(ReflectliteType.typeOf #[.iface 146 v]).run prog w=.ok (rtv 146) w:=by kernel_rfl
theorem Qlv (w : World) : (ReflectliteType.relation "AssignableTo" ReflectliteType.assignableTo #[rty 146, rtv 146]).run Tryz.prog w = .ok (.bool true) w := by kernel_rfl
theorem Qss (e:Addr)(w:World):(ReflectliteValue.unpack (.iface 146 (.pointer (some e)))).run prog w=.ok (rvl 146 ⟨w.heap.size,0,none⟩ 150) (w.alloc (.cells #[.pointer (some e)] 146)):=by kernel_rfl
theorem Qwk (a:Addr)(w:World):(ReflectliteValue.parts (rvl 146 a 406)).run prog w=.ok (some (146,a,406)) w:=by kernel_rfl
theorem Qxu (a:Addr)(w:World):(ReflectliteValue.parts (rvl 146 a 150)).run prog w=.ok (some (146,a,150)) w:=by kernel_rfl
theorem Quz (w:World):(Rtype.directlyAssignable 146 146).run prog w=.ok true w:=by kernel_rfl
theorem as_setF (ta b:Addr)(e:Addr)(old:Value)(W:World) (hb:W.cell? b=some (.pointer (some e))) (ht:W.cell? ta=some old) (hf:W.frozen? ta=false) :
 (ReflectliteValue.set #[rvl 146 ta 406,rvl 146 b 150]).run prog W=.ok (.tuple #[]) (W.setCell ta (.pointer (some e))):=by
 rw [as_rls];simp only [Sem.run_bind,Qwk,Qxu,Result.andThen];simp [ReflectliteValue.flagAddr,loadVar,isAgg,underlying,underlying146,hb,Result.andThen,Quz,storeVar,Value.cells,storeCells,Addr.add];rw [run_store prog W ta _ _ (by rfl)];simp [ht,hf]
/-! ### at *api.Errno -/
theorem Qqp (t:Addr)(w:World):(ReflectliteValue.unpack (.iface 153 (.pointer (some t)))).run prog w=.ok (rvl 153 ⟨w.heap.size,0,none⟩ 150) (w.alloc (.cells #[.pointer (some t)] 153)):=by kernel_rfl
theorem Qzw (a : Addr) (w : World) : (ReflectliteValue.methodAny (ReflectliteValue.valueError "reflectlite.Value.Type" 0) (fun t _ _ _ => ReflectliteType.toType t) #[rvl 153 a 150]).run Tryz.prog w = .ok (rtv 153) w := by kernel_rfl
theorem Qzv (w:World):((ReflectliteType.abiMethod fun t=>(fun a:Nat=>Value.int IntKind.u8 (a:Int)) <$> Rtype.kind t) #[.pointer (some ⟨1,153,none⟩)]).run prog w=.ok (.int .u8 22) w:=by kernel_rfl
theorem as_kindE (w:World):((ReflectliteType.abiMethod fun t=>(fun a:Nat=>Value.int IntKind.u8 (a:Int)) <$> Rtype.kind t) #[.pointer (some ⟨1,131,none⟩)]).run prog w=.ok (.int .u8 2) w:=by kernel_rfl
theorem Qmy (a:Addr)(w:World):(ReflectliteValue.parts (rvl 153 a 150)).run prog w=.ok (some (153,a,150)) w:=by kernel_rfl
theorem Qxh (a p:Addr)(W:World) (ha:W.cell? a=some (.pointer (some p))) :
 (ReflectliteValue.method (ReflectliteValue.valueError "reflectlite.Value.IsNil" 0) ReflectliteValue.isNil #[rvl 153 a 150]).run Tryz.prog W = .ok (.bool false) W := by
 rw [Qtd];simp only [Sem.run_bind,Qmy,Result.andThen];simp [ReflectliteValue.isNil,loadVar,isAgg,underlying,underlying153,ha,Result.andThen]
theorem as_elemE (w:World):(ReflectliteType.method ReflectliteType.elem #[rty 153]).run prog w=.ok (rtv 131) w:=by kernel_rfl
theorem Qma (w : World) : (ReflectliteType.relation "Implements" ReflectliteType.implements_ #[rty 131, Qjb]).run Tryz.prog w = .ok (.bool true) w := by kernel_rfl
theorem Qur (w:World):(Rtype.elem? 153).run prog w=.ok (some 131) w:=by kernel_rfl
theorem as_mkE (p:Addr)(w:World):(ReflectliteValue.mk 131 p ReflectliteValue.flagAddr).run prog w=.ok (rvl 131 p 386) w:=by kernel_rfl
theorem Rai (a p:Addr)(W:World) (ha:W.cell? a=some (.pointer (some p))) :
 (ReflectliteValue.method (ReflectliteValue.valueError "reflectlite.Value.Elem" 0) ReflectliteValue.elem #[rvl 153 a 150]).run Tryz.prog W = .ok (rvl 131 p 386) W := by
 rw [Qtd];simp only [Sem.run_bind,Qmy,Result.andThen];simp [ReflectliteValue.elem,loadVar,isAgg,underlying,underlying153,ha,Result.andThen,Qur,as_mkE]
theorem Qmm (v:Value)(w:World):(ReflectliteType.typeOf #[.iface 131 v]).run prog w=.ok (rtv 131) w:=by kernel_rfl
theorem Qlw (w : World) : (ReflectliteType.relation "AssignableTo" ReflectliteType.assignableTo #[rty 131, rtv 131]).run Tryz.prog w = .ok (.bool true) w := by kernel_rfl
theorem Qsd (c:Int)(w:World):(ReflectliteValue.unpack (.iface 131 (.int .i64 c))).run prog w=.ok (rvl 131 ⟨w.heap.size,0,none⟩ 130) (w.alloc (.cells #[.int .i64 c] 131)):=by kernel_rfl
theorem Qvs (a:Addr)(w:World):(ReflectliteValue.parts (rvl 131 a 386)).run prog w=.ok (some (131,a,386)) w:=by kernel_rfl
theorem Qzd (a:Addr)(w:World):(ReflectliteValue.parts (rvl 131 a 130)).run prog w=.ok (some (131,a,130)) w:=by kernel_rfl
theorem Qvk (w:World):(Rtype.directlyAssignable 131 131).run prog w=.ok true w:=by kernel_rfl
theorem as_setE (ta b:Addr)(c:Int)(old:Value)(W:World) (hb:W.cell? b=some (.int .i64 c)) (ht:W.cell? ta=some old) (hf:W.frozen? ta=false) :
 (ReflectliteValue.set #[rvl 131 ta 386,rvl 131 b 130]).run prog W=.ok (.tuple #[]) (W.setCell ta (.int .i64 c)):=by
 rw [as_rls];simp only [Sem.run_bind,Qvs,Qzd,Result.andThen];simp [ReflectliteValue.flagAddr,loadVar,isAgg,underlying,underlying131,hb,Result.andThen,Qvk,storeVar,Value.cells,storeCells,Addr.add];rw [run_store prog W ta _ _ (by rfl)];simp [ht,hf]
set_option maxHeartbeats 4000000 in
theorem as_hitF (e:Addr)(t:Addr)(old:Value)(w:World)(hg:w.cell? ⟨0,0,none⟩=some Qjb)(ht0:w.cell? t=some old)(hf0:w.frozen? t=false) :
 Calls prog 71 #[.iface 146 (.pointer (some e)),.iface 148 (.pointer (some t))] w fun ev w'=>ev=.returned (.bool true)∧w'=((asX t 148 w).alloc (.cells #[.pointer (some e)] 146)).setCell t (.pointer (some e)):=by
 have h6:=@run_callFunc_extern prog 123 _ (fun args=>ReflectliteValue.unpack (args.getD 0 (.tuple #[]))) func123 (by kernel_rfl) (by kernel_rfl) (by kernel_rfl) (by kernel_rfl)
 have h7 := @run_callFunc_extern Tryz.prog 124 _ (ReflectliteValue.methodAny (ReflectliteValue.valueError "reflectlite.Value.Type" 0) (fun t _ _ _ => ReflectliteType.toType t)) Tryz.func124 (by kernel_rfl) (by kernel_rfl) (by kernel_rfl) (by kernel_rfl)
 have h8 := @run_callFunc_extern Tryz.prog 125 _ (ReflectliteValue.method (ReflectliteValue.valueError "reflectlite.Value.IsNil" 0) ReflectliteValue.isNil) Tryz.func125 (by kernel_rfl) (by kernel_rfl) (by kernel_rfl) (by kernel_rfl)
 have h27:=@run_callFunc_extern prog 231 _ (ReflectliteType.abiMethod fun t=>do pure (.int .u8 (←Rtype.kind t))) func231 (by kernel_rfl) (by kernel_rfl) (by kernel_rfl) (by kernel_rfl);have h37:=@run_callFunc_extern prog 243 _ (ReflectliteType.method ReflectliteType.elem) func243 (by kernel_rfl) (by kernel_rfl) (by kernel_rfl) (by kernel_rfl)
 have h38 := @run_callFunc_extern Tryz.prog 244 _ (ReflectliteType.relation "Implements" ReflectliteType.implements_) Tryz.func244 (by kernel_rfl) (by kernel_rfl) (by kernel_rfl) (by kernel_rfl)
 have h10:=@run_callFunc_extern prog 121 _ ReflectliteType.typeOf func121 (by kernel_rfl) (by kernel_rfl) (by kernel_rfl) (by kernel_rfl)
 have h35 := @run_callFunc_extern Tryz.prog 241 _ (ReflectliteType.relation "AssignableTo" ReflectliteType.assignableTo) Tryz.func241 (by kernel_rfl) (by kernel_rfl) (by kernel_rfl) (by kernel_rfl)
 have h11 := @run_callFunc_extern Tryz.prog 167 _ (ReflectliteValue.method (ReflectliteValue.valueError "reflectlite.Value.Elem" 0) ReflectliteValue.elem) Tryz.func167 (by kernel_rfl) (by kernel_rfl) (by kernel_rfl) (by kernel_rfl)
 have h12:=@run_callFunc_extern prog 168 _ ReflectliteValue.set func168 (by kernel_rfl) (by kernel_rfl) (by kernel_rfl) (by kernel_rfl);have mA:=Qdt;have mK:=Qnx;have mE:=Qoj;have mI:=Qew;have tO:=Qvm;have aS:=Qlv;have vO:=Qss;have f6:=Qjg;have f7:=Qpw;have kP:=Qpj;have kE:=Qug;have eL:=Qtx;have iM:=Qhc;have n8:=Qqm ⟨w.heap.size,0,none⟩ t (asW t 148 w) (by simp);have hlt:0<w.heap.size:=Qah hg
 have htl:t.block<w.heap.size:=Qah ht0
 have hg2:(asW t 148 w).cell? ⟨0,0,none⟩=some Qjb:=by
  exact Kbx
 have el:=Qyg ⟨w.heap.size,0,none⟩ t (asX t 148 w) (by rw [World.cell?_alloc_lt _ _ ⟨w.heap.size,0,none⟩ (by simp;omega)];simp)
 have st:=as_setF t ⟨w.heap.size+1+1+1,0,none⟩ e old ((asX t 148 w).alloc (.cells #[.pointer (some e)] 146))
  (by rw [World.cell?_alloc_at _ _ _ _ (by simp)];rfl)
  (by rw [World.cell?_alloc_lt _ _ t (by simp;omega),World.cell?_alloc_lt _ _ t (by simp;omega),World.cell?_alloc_lt _ _ t (by simp;omega),World.cell?_alloc_lt _ _ t htl];exact ht0)
  (by rw [World.frozen?_alloc_old _ _ t (by simp;omega),World.frozen?_alloc_old _ _ t (by simp;omega),World.frozen?_alloc_old _ _ t (by simp;omega),World.frozen?_alloc_old _ _ t (Nat.ne_of_lt htl)];exact hf0)
 exact Kce
set_option maxHeartbeats 4000000 in
theorem as_hitE (c:Int)(t:Addr)(old:Value)(w:World)(hg:w.cell? ⟨0,0,none⟩=some Qjb)(ht0:w.cell? t=some old)(hf0:w.frozen? t=false) :
 Calls prog 71 #[.iface 131 (.int .i64 c),.iface 153 (.pointer (some t))] w fun ev w'=>ev=.returned (.bool true)∧w'=((asX t 153 w).alloc (.cells #[.int .i64 c] 131)).setCell t (.int .i64 c):=by
 have h6:=@run_callFunc_extern prog 123 _ (fun args=>ReflectliteValue.unpack (args.getD 0 (.tuple #[]))) func123 (by kernel_rfl) (by kernel_rfl) (by kernel_rfl) (by kernel_rfl)
 have h7 := @run_callFunc_extern Tryz.prog 124 _ (ReflectliteValue.methodAny (ReflectliteValue.valueError "reflectlite.Value.Type" 0) (fun t _ _ _ => ReflectliteType.toType t)) Tryz.func124 (by kernel_rfl) (by kernel_rfl) (by kernel_rfl) (by kernel_rfl)
 have h8 := @run_callFunc_extern Tryz.prog 125 _ (ReflectliteValue.method (ReflectliteValue.valueError "reflectlite.Value.IsNil" 0) ReflectliteValue.isNil) Tryz.func125 (by kernel_rfl) (by kernel_rfl) (by kernel_rfl) (by kernel_rfl)
 have h27:=@run_callFunc_extern prog 231 _ (ReflectliteType.abiMethod fun t=>do pure (.int .u8 (←Rtype.kind t))) func231 (by kernel_rfl) (by kernel_rfl) (by kernel_rfl) (by kernel_rfl);have h37:=@run_callFunc_extern prog 243 _ (ReflectliteType.method ReflectliteType.elem) func243 (by kernel_rfl) (by kernel_rfl) (by kernel_rfl) (by kernel_rfl)
 have h38 := @run_callFunc_extern Tryz.prog 244 _ (ReflectliteType.relation "Implements" ReflectliteType.implements_) Tryz.func244 (by kernel_rfl) (by kernel_rfl) (by kernel_rfl) (by kernel_rfl)
 have h10:=@run_callFunc_extern prog 121 _ ReflectliteType.typeOf func121 (by kernel_rfl) (by kernel_rfl) (by kernel_rfl) (by kernel_rfl)
 have h35 := @run_callFunc_extern Tryz.prog 241 _ (ReflectliteType.relation "AssignableTo" ReflectliteType.assignableTo) Tryz.func241 (by kernel_rfl) (by kernel_rfl) (by kernel_rfl) (by kernel_rfl)
 have h11 := @run_callFunc_extern Tryz.prog 167 _ (ReflectliteValue.method (ReflectliteValue.valueError "reflectlite.Value.Elem" 0) ReflectliteValue.elem) Tryz.func167 (by kernel_rfl) (by kernel_rfl) (by kernel_rfl) (by kernel_rfl)
 have h12:=@run_callFunc_extern prog 168 _ ReflectliteValue.set func168 (by kernel_rfl) (by kernel_rfl) (by kernel_rfl) (by kernel_rfl);have mA:=Qdt;have mK:=Qnx;have mE:=Qoj;have mI:=Qew;have tO:=Qmm;have aS:=Qlw;have vO:=Qsd;have f6:=Qqp;have f7:=Qzw;have kP:=Qzv;have kE:=as_kindE;have eL:=as_elemE;have iM:=Qma;have n8:=Qxh ⟨w.heap.size,0,none⟩ t (asW t 153 w) (by simp);have hlt:0<w.heap.size:=Qah hg
 have htl:t.block<w.heap.size:=Qah ht0
 have hg2:(asW t 153 w).cell? ⟨0,0,none⟩=some Qjb:=by
  exact Kbx
 have el:=Rai ⟨w.heap.size,0,none⟩ t (asX t 153 w) (by rw [World.cell?_alloc_lt _ _ ⟨w.heap.size,0,none⟩ (by simp;omega)];simp)
 have st:=as_setE t ⟨w.heap.size+1+1+1,0,none⟩ c old ((asX t 153 w).alloc (.cells #[.int .i64 c] 131))
  (by rw [World.cell?_alloc_at _ _ _ _ (by simp)];rfl)
  (by rw [World.cell?_alloc_lt _ _ t (by simp;omega),World.cell?_alloc_lt _ _ t (by simp;omega),World.cell?_alloc_lt _ _ t (by simp;omega),World.cell?_alloc_lt _ _ t htl];exact ht0)
  (by rw [World.frozen?_alloc_old _ _ t (by simp;omega),World.frozen?_alloc_old _ _ t (by simp;omega),World.frozen?_alloc_old _ _ t (by simp;omega),World.frozen?_alloc_old _ _ t (Nat.ne_of_lt htl)];exact hf0)
 exact Kce
theorem Qls (w : World) : (ReflectliteType.relation "AssignableTo" ReflectliteType.assignableTo #[rty 131, rtv 146]).run Tryz.prog w = .ok (.bool false) w := by kernel_rfl
set_option maxHeartbeats 4000000 in
theorem as_miss (c:Int)(t:Addr)(w:World)(hg:w.cell? ⟨0,0,none⟩=some Qjb) :
 Calls prog 71 #[Qnc c,.iface 148 (.pointer (some t))] w fun ev w'=>ev=.returned (.bool false)∧w'=asX t 148 w:=by
 have h6:=@run_callFunc_extern prog 123 _ (fun args=>ReflectliteValue.unpack (args.getD 0 (.tuple #[]))) func123 (by kernel_rfl) (by kernel_rfl) (by kernel_rfl) (by kernel_rfl)
 have h7 := @run_callFunc_extern Tryz.prog 124 _ (ReflectliteValue.methodAny (ReflectliteValue.valueError "reflectlite.Value.Type" 0) (fun t _ _ _ => ReflectliteType.toType t)) Tryz.func124 (by kernel_rfl) (by kernel_rfl) (by kernel_rfl) (by kernel_rfl)
 have h8 := @run_callFunc_extern Tryz.prog 125 _ (ReflectliteValue.method (ReflectliteValue.valueError "reflectlite.Value.IsNil" 0) ReflectliteValue.isNil) Tryz.func125 (by kernel_rfl) (by kernel_rfl) (by kernel_rfl) (by kernel_rfl)
 have h27:=@run_callFunc_extern prog 231 _ (ReflectliteType.abiMethod fun t=>do pure (.int .u8 (←Rtype.kind t))) func231 (by kernel_rfl) (by kernel_rfl) (by kernel_rfl) (by kernel_rfl);have h37:=@run_callFunc_extern prog 243 _ (ReflectliteType.method ReflectliteType.elem) func243 (by kernel_rfl) (by kernel_rfl) (by kernel_rfl) (by kernel_rfl)
 have h38 := @run_callFunc_extern Tryz.prog 244 _ (ReflectliteType.relation "Implements" ReflectliteType.implements_) Tryz.func244 (by kernel_rfl) (by kernel_rfl) (by kernel_rfl) (by kernel_rfl)
 have h10:=@run_callFunc_extern prog 121 _ ReflectliteType.typeOf func121 (by kernel_rfl) (by kernel_rfl) (by kernel_rfl) (by kernel_rfl)
 have h35 := @run_callFunc_extern Tryz.prog 241 _ (ReflectliteType.relation "AssignableTo" ReflectliteType.assignableTo) Tryz.func241 (by kernel_rfl) (by kernel_rfl) (by kernel_rfl) (by kernel_rfl)
 have h11 := @run_callFunc_extern Tryz.prog 167 _ (ReflectliteValue.method (ReflectliteValue.valueError "reflectlite.Value.Elem" 0) ReflectliteValue.elem) Tryz.func167 (by kernel_rfl) (by kernel_rfl) (by kernel_rfl) (by kernel_rfl)
 have h12:=@run_callFunc_extern prog 168 _ ReflectliteValue.set func168 (by kernel_rfl) (by kernel_rfl) (by kernel_rfl) (by kernel_rfl);have mA:=Qdt;have mK:=Qnx;have mE:=Qoj;have mI:=Qew;have tO:=Qmm;have aS:=Qls;have f6:=Qjg;have f7:=Qpw;have kP:=Qpj;have kE:=Qug;have eL:=Qtx;have iM:=Qhc;have nA:=er_noAs;have nU:=Qrg;have nV:=Qqd;have n8:=Qqm ⟨w.heap.size,0,none⟩ t (asW t 148 w) (by simp);have hlt:0<w.heap.size:=Qah hg
 have hg2:(asW t 148 w).cell? ⟨0,0,none⟩=some Qjb:=by
  exact Kbx
 exact Kce
end Go.Proofs.YtdheeddnkdhfeaaGreatDoor
namespace Go.Proofs.YtdheeddnkdhfeaaGreatDoor
open Go.RowKit Go.Extern.Stop Go.Stop Go.Extern Go.Proofs.Tryz
theorem Qem (t:Addr)(p:Nat)(w:World):Below w.heap.size w (asX t p w):=Qag
theorem as_fault (b o g:Nat)(old:Value)(w:World)(hg:w.cell? ⟨0,0,none⟩=some Qjb)(ht0:w.cell? ⟨g,0,none⟩=some old)(hf0:w.frozen? ⟨g,0,none⟩=false) :
 Calls prog 71 #[Qwz b o,.iface 148 (.pointer (some ⟨g,0,none⟩))] w fun ev w'=>ev=.returned (.bool true)∧w'.cell? ⟨g,0,none⟩=some (.pointer (some ⟨b,o,none⟩))∧Below g w w' :=
 (as_hitF ⟨b,o,none⟩ ⟨g,0,none⟩ old w hg ht0 hf0).mono fun e w' ⟨he,hw⟩=>by
  have hlt:=Qah ht0;have hb:Below g w (asX ⟨g,0,none⟩ 148 w):=(Qem _ _ w).mono (Nat.le_of_lt hlt);have hb2:Below g w ((asX ⟨g,0,none⟩ 148 w).alloc (.cells #[.pointer (some ⟨b,o,none⟩)] 146)):=hb.alloc (Yx (Nat.le_of_lt hlt) (Qem _ _ w).size) _;refine ⟨he,?_,?_⟩
  · rw [hw]
    have hc:((asX ⟨g,0,none⟩ 148 w).alloc (.cells #[.pointer (some ⟨b,o,none⟩)] 146)).cell? ⟨g,0,none⟩=some old :=
     Zc (Bel.alloc (Qem ⟨g,0,none⟩ 148 w)) (Zn _) ht0
    exact World.cell?_setCell_same _ _ _ hc
  · rw [hw];exact hb2.setCell (Zn _) _
theorem as_errno (c:Int)(g:Nat)(old:Value)(w:World)(hg:w.cell? ⟨0,0,none⟩=some Qjb)(ht0:w.cell? ⟨g,0,none⟩=some old)(hf0:w.frozen? ⟨g,0,none⟩=false) :
 Calls prog 71 #[Qnc c,.iface 153 (.pointer (some ⟨g,0,none⟩))] w fun ev w'=>ev=.returned (.bool true)∧w'.cell? ⟨g,0,none⟩=some (.int .i64 c)∧Below g w w' :=
 (as_hitE c ⟨g,0,none⟩ old w hg ht0 hf0).mono fun e w' ⟨he,hw⟩=>by
  have hlt:=Qah ht0;have hb:Below g w (asX ⟨g,0,none⟩ 153 w):=(Qem _ _ w).mono (Nat.le_of_lt hlt);have hb2:Below g w ((asX ⟨g,0,none⟩ 153 w).alloc (.cells #[.int .i64 c] 131)):=hb.alloc (Yx (Nat.le_of_lt hlt) (Qem _ _ w).size) _;refine ⟨he,?_,?_⟩
  · rw [hw]
    have hc:((asX ⟨g,0,none⟩ 153 w).alloc (.cells #[.int .i64 c] 131)).cell? ⟨g,0,none⟩=some old :=
     Zc (Bel.alloc (Qem ⟨g,0,none⟩ 153 w)) (Zn _) ht0
    exact World.cell?_setCell_same _ _ _ hc
  · rw [hw];exact hb2.setCell (Zn _) _
theorem as_none (c:Int)(g:Nat)(w:World)(hg:w.cell? ⟨0,0,none⟩=some Qjb) :
 Calls prog 71 #[Qnc c,.iface 148 (.pointer (some ⟨g,0,none⟩))] w fun ev w'=>ev=.returned (.bool false)∧Below w.heap.size w w' :=
 (as_miss c ⟨g,0,none⟩ w hg).mono fun e w' ⟨he,hw⟩=>⟨he,by rw [hw];exact Qem _ _ w⟩
set_option maxHeartbeats 1000000 in
theorem Qyv (A:Option Addr)(n c:Nat)(w:World) :
 Calls prog 23 #[.nilIface,.agg #[.slice A n c,.int .i64 0]] w fun e w'=>e=.returned (.bool true)∧Below w.heap.size w w':=by
 go_enter func23,ntmps23
 go_wp2
 go_ret
 exact ⟨rfl,Qag⟩
theorem Qwl {w:World}{v:Value} {ps:List (ByteArray×Int)} {c:Int} {k:Nat} {p:ByteArray×Int} (hk:ps[k]?=some p) (h:Qcd w v (ps.drop k) c) :
 ∃ b o u,v=Qwz b o∧w.cell? ⟨b,o,none⟩=some (.string p.1)∧w.cell? ⟨b,o+1,none⟩=some (.int .i64 p.2)∧w.cell? ⟨b,o+2,none⟩=some u∧Qcd w u (ps.drop (k+1)) c:=by
 have hlt:=(Zs hk).1;rw [List.drop_eq_getElem_cons hlt] at h;have e:ps[k]=p:=(Zs hk).2;rw [e] at h;exact h
attribute [local go_sem ↓] Go.wp_at_zero Go.wp_at_succ
set_option maxHeartbeats 4000000 in
theorem Qot (v:Value)(A:Option Addr)(n c:Nat) (ps:List (ByteArray×Int)) (c0:Int) (w:World) (h:Qcd w v ps c0) (hr:RdW w A n ps) (hc0:c0≠0) (hg:w.cell? ⟨0,0,none⟩=some Qjb) (hn:n≤4000000000000000000) :
 Calls prog 23 #[v,.agg #[.slice A n c,.int .i64 c0]] w fun e w'=>e=.returned (.bool true)∧Below w.heap.size w w':=by
 have HI:∀ (W:World),Below w.heap.size w W→Calls prog 70 #[v,Qnc c0] W fun e w'=>e=.returned (.bool true)∧w'=W:=fun W hb=>errorsIs v ps c0 W (Qcd.below hb h)
 have HI':=Zh HI;clear HI;obtain ⟨tvv,xv,hv⟩:=Qbj h;have hlt0:=Qah hg;have HC:=Zh hc0;have HCH:=Zh h;subst hv;clear h
 go_enter func23,ntmps23
 go_wp2_with fail
 with_reducible refine (HI'.out _ Qag).mono ?_
 rintro e w' ⟨rfl,rfl⟩;clear HI'
 go_wp2_with fail
 (refine Qai ?_;intro w1 hw1)
 have hb1:Below w.heap.size w w1:=by rw [hw1];exact Qag
 have hx0:w1.cell? ⟨w.heap.size,0,none⟩=some (.slice A n c):=by rw [hw1];simp
 have hx1:w1.cell? ⟨w.heap.size,1,none⟩=some (.int .i64 c0):=by rw [hw1];simp
 have hg1:w1.cell? ⟨0,0,none⟩=some Qjb:=Zc hb1 (Zn _) hg;have hr1:=hr.below hb1;have hch:=Qcd.below hb1 HCH.out;have HCH1:=Zh hch;clear hch HCH hr hw1 hg
 go_loopw [0,5] (fun u i W=>∃ (k:Nat),k≤n∧i=.int .i64 k∧Qcd W u (ps.drop k) c0∧Below w1.heap.size w1 W) (fun _ i _=>n-(intOf i).toNat)
 case atStart=>exact ⟨0,Nat.zero_le _,rfl,HCH1.out,Zr _ _⟩
 case round =>
  obtain ⟨k,hk,rfl,hch,hbl⟩:=hrel;have y0:=Zc hbl (Zn _) hx0
  by_cases hlt:k<n
  · have hlen:=hr1.1
    obtain ⟨p,hp⟩:∃ p,ps[k]?=some p:=⟨ps[k],Zg (by omega)⟩;obtain ⟨pb,po,rfl,hp1,hp2⟩:=hr1.2 k p hp;obtain ⟨b,o,u,rfl,hc1,hc2,hc3,hc4⟩:=Qwl hp hch;obtain ⟨tu,xu,hu⟩:=Qbj hc4;have HP:=Zh hp;have H4:=Zh hc4;have z:=hbl.size;clear hp hch hlen hc4;subst hu;obtain ⟨s,q0⟩:=p
    go_wp2_with fail
    (refine Qai ?_;intro W5 hW5)
    have hb5:Below w1.heap.size w1 W5:=by rw [hW5];exact Qag
    have hbr:Below wr.heap.size wr W5:=by rw [hW5];exact Qag
    have ht5:W5.cell? ⟨wr.heap.size,0,none⟩=some (.pointer none):=by rw [hW5];simp
    have hf5:W5.frozen? ⟨wr.heap.size,0,none⟩=false:=by rw [hW5];simp
    have hg5:=Zc hb5 (Zn _) hg1;have hz5:=Qah ht5
    have HA:∀ V,Below W5.heap.size W5 V→Calls prog 71 #[Qwz b o,.iface 148 (.pointer (some ⟨wr.heap.size,0,none⟩))] V fun ev w'=>ev=.returned (.bool true)∧w'.cell? ⟨wr.heap.size,0,none⟩=some (.pointer (some ⟨b,o,none⟩))∧Below wr.heap.size W5 w':=fun V hV =>
     (as_fault b o wr.heap.size _ V (Zc hV (Zn _) hg5) (Zc hV (Zn _) ht5) ((Below.frozenOf hV hz5).trans hf5)).mono fun _ _ ⟨h1,h2,h3⟩=>⟨h1,h2,(hV.mono (Nat.le_of_lt hz5)).trans h3⟩
    have HA':=Zh HA;clear HA;clear hW5 hf5 hg5;refine wp_region_held_drew (S:=fun _=>True) (by kernel_rfl) trivial (fun _=>?_);refine tz 0 31 ?_;refine tz 1 32 ?_;refine Zk 2 (fun K hK=>?_);go_simp
    go_at_call 71
    with_reducible refine (HA'.out _ Qag).mono ?_
    rintro e w6 ⟨rfl,ht6,hb6⟩;have hb7:Below wr.heap.size wr w6:=hbr.trans hb6;have c6:=Zc hb7 (Zn _) hc1;have d6:=Zc hb7 (Zn _) hc2;have e6:=Zc hb7 (Zn _) hc3;have y6:=Zc hb7 (Zn _) y0;have p6:=Zc hb7 (Zn _) (Zc hbl (Zn _) hp1);have q6:=Zc hb7 (Zn _) (Zc hbl (Zn _) hp2)
    go_wp2_with fail
    refine hK.out _ _ trivial (fun _=>?_);clear hK K;refine Qkc (S':=fun V=>V=w6) (fun _ _=>trivial) _ _ _ _ ?_;have i1:(0:Int)≤(k:Int):=by omega
    have i2:(k:Int)<(n:Int):=by omega
    clear hc1 hc2 hc3 y0 hp1 hp2 HA' hx1 hb5 hbr ht5 hz5;refine tz 3 34 ?_;refine tz 4 35 ?_;refine tz 5 36 ?_;refine tz 6 37 ?_;refine tz 7 38 ?_;refine tz 8 39 ?_;refine tz 9 40 ?_;refine tz 10 41 ?_;refine tz 11 42 ?_;refine tz 12 43 ?_;refine tz 13 44 ?_;refine tz 14 45 ?_;refine tz 15 46 ?_;refine tz 16 47 ?_;refine tz 17 48 ?_;refine tz 18 49 ?_;refine tz 19 50 ?_;refine tz 20 51 ?_;refine tz 21 52 ?_;refine tz 22 53 ?_;refine tz 23 54 ?_;refine tz 24 55 ?_;refine tz 25 56 ?_;refine tz 26 57 ?_;refine tz 27 58 ?_;refine tz 28 59 ?_;refine tz 29 60 ?_;refine tz 30 61 ?_;refine tz 31 62 ?_;refine tz 32 63 ?_;refine tz 33 64 ?_;refine Zd ?_
    go_wp2_with fail
    exact ⟨⟨k+1,by omega,by go_num,Qcd.below hb7 H4.out,Zb hbl hb7⟩,by simp [intOf];omega⟩
  · obtain rfl:k=n:=by omega
    rw [List.drop_of_length_le (by have:=hr1.1;omega)] at hch;unfold Qcd at hch;subst hch;have x1:=Zc hbl (Zn _) hx1;have gr:=Zc hbl (Zn _) hg1;have z:=hbl.size;clear hx0 hr1 hx1
    go_wp2_with fail
    (refine Qab ?_;intro W5 hW5)
    have hbr:Below wr.heap.size wr W5:=by rw [hW5];exact Qag
    have ht5:W5.cell? ⟨wr.heap.size+1,0,none⟩=some (.int .i64 0):=by rw [hW5];simp
    have hf5:W5.frozen? ⟨wr.heap.size+1,0,none⟩=false:=by rw [hW5];simp
    have g5:=Zc hbr (Zn _) gr;have z5:=Qah ht5;clear hW5;with_reducible refine (as_none c0 wr.heap.size _ g5).mono ?_
    rintro e w6 ⟨rfl,hb6⟩;have hb56:=hbr.trans (hb6.mono hbr.size)
    go_wp2_with fail
    with_reducible refine (as_errno c0 (wr.heap.size+1) _ _ (Zc hb6 (Zn _) g5) (Zc hb6 (Zn _) ht5) ((Below.frozenOf hb6 z5).trans hf5)).mono ?_
    rintro e w7 ⟨rfl,ht7,hb7⟩;have hb8:Below wr.heap.size wr w7:=hb56.trans (hb7.mono (Nat.le_succ _));have x7:=Zc hb8 (Zn _) x1;clear hb6 hb7 hb56 ht5 hf5
    exact Kct
end Go.Proofs.YtdheeddnkdhfeaaGreatDoor
