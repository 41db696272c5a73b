/- Parts of the proof: MdC. -/
import Derived.Test.YthoagdpakddbdaaGreatDoorD1
import Derived.Test.YthoagdpakddbdaaGreatDoorD2
import Derived.Test.YthoagdpakddbdaaGreatDoorD24
import Derived.Test.YthoagdpakddbdaaGreatDoorD26
import Derived.Test.YthoagdpakddbdaaGreatDoorD37
namespace Go.Proofs.YthoagdpakddbdaaGreatDoor
open Go.RowKit Go.Proofs.Tryz
attribute [local go_sem ↓] Go.wp_at_zero Go.wp_at_succ
set_option maxRecDepth 20000 in
set_option maxHeartbeats 8000000 in
theorem Qut (A B C:Option Addr)(n m k c d e:Nat)(N:Qaj)(w:World)(x y z u v:Int)(h:Qbo w A B C n m k N) :
 Calls prog 50 #[.agg #[.slice A n c,.slice B m d,.slice C k e],.agg #[.int .i64 x,.int .i64 y,.int .i64 z,.int .i64 u,.int .i64 v]] w fun r w'=>r=.returned (.int .i64 (Qqk N (x,y,z,u,v)))∧Below w.heap.size w w':=by
 obtain ⟨E,hE⟩:∃ E,E=Qqk N (x,y,z,u,v):=⟨_,rfl⟩;rw [←hE];rw [Qwl] at hE;have HH:=Zh h;have hm:N.ar.length=m:=h.2.1.1;have hkk:N.ts.length=k:=h.2.2.1;clear h
 by_cases hx1:x=1
 · rw [if_pos hx1] at hE
   subst hx1
   by_cases hz:z=0
   rotate_left
   · rw [if_pos (.inl hz)] at hE
     subst hE
     go_enter func50,ntmps50
     go_wp2_with fail
     go_ret
     exact ⟨rfl,Qae⟩
   by_cases hu:u=0
   rotate_left
   · rw [if_pos (.inr hu)] at hE
     subst hE;subst hz
     go_enter func50,ntmps50
     go_wp2_with fail
     go_ret
     exact ⟨rfl,Qae⟩
   rw [if_neg (by rintro (h|h);exact h hz;exact h hu)] at hE;subst hz;subst hu
   by_cases hy:0≤y∧y<(m:Int)
   rotate_left
   · rw [if_pos (by rw [hm];exact hy)] at hE
     subst hE;have HS:=Zh (fun V=>Qqw A B C n m k c d e y V hy);clear hy
     go_enter func50,ntmps50
     go_wp2_with fail
     (refine Qac ?_;intro w1 hw1)
     have hb1:Below w.heap.size w w1:=by rw [hw1];exact Qae
     clear hw1;with_reducible refine (HS.out w1).mono ?_
     rintro r w2 ⟨rfl,hb2⟩;have HB2:=Zh (Zb hb1 hb2)
     go_wp2_with fail
     go_ret
     exact ⟨rfl,HB2.out⟩
   rw [if_neg (by rw [hm];exact fun h=>h hy)] at hE;have HS:=Zh (fun V=>Qqh A B C n m k c d e y V hy.1 hy.2);clear hy
   go_enter func50,ntmps50
   go_wp2_with fail
   (refine Qac ?_;intro w1 hw1)
   have hb1:Below w.heap.size w w1:=by rw [hw1];exact Qae
   have hY:Blk w1 (w.heap.size+1) 71 #[.int .i64 1,.int .i64 y,.int .i64 0,.int .i64 0,.int .i64 v]:=by rw [hw1];exact Qay
   clear hw1;with_reducible refine (HS.out w1).mono ?_
   rintro r w2 ⟨rfl,hb2⟩;have hY2:=hY.below hb2 hY.lt;have x4:w2.cell? ⟨w.heap.size+1,4,none⟩=some (.int .i64 v):=Zq hY2;have xl:=hY2.lt;have HB2:=Zh (Zb hb1 hb2);have HWT:=Zh (Qcz v w2);clear hY hb1 hb2 hY2
   cases hw:wOk v with
   | true =>
    rw [hw,if_pos rfl] at hE;subst hE
    go_wp2_with fail
    with_reducible refine HWT.out.mono ?_
    rintro r w' ⟨rfl,rfl⟩;rw [hw]
    go_wp2_with fail
    go_ret
    exact ⟨rfl,HB2.out⟩
   | false =>
    rw [hw,if_neg (by simp)] at hE;subst hE
    go_wp2_with fail
    with_reducible refine HWT.out.mono ?_
    rintro r w' ⟨rfl,rfl⟩;rw [hw]
    go_wp2_with fail
    go_ret
    exact ⟨rfl,HB2.out⟩
 rw [if_neg hx1] at hE
 by_cases hx2:x=2
 rotate_left
 · rw [if_neg hx2] at hE
   subst hE;have e1:(x != 1)=true:=by simpa using hx1
   have e2:(x != 2)=true:=by simpa using hx2
   have e3:(x == 1)=false:=by simpa using hx1
   have e4:(x == 2)=false:=by simpa using hx2
   clear hx1 hx2
   go_enter func50,ntmps50
   go_wp2_with fail
   go_ret
   exact ⟨rfl,Qae⟩
 rw [if_pos hx2] at hE;subst hx2;clear hx1
 by_cases hy0:y<0
 · rw [if_pos (by rintro ⟨g0,_⟩;simp only at g0;omega)] at hE
   subst hE
   go_enter func50,ntmps50
   go_wp2_with fail
   (refine Qag ?_;intro w1 hw1)
   have hb1:Below w.heap.size w w1:=by rw [hw1];exact Qae
   have hX:Blk w1 w.heap.size 26 #[.slice A n c,.slice B m d,.slice C k e]:=by rw [hw1];exact Qay
   have hY:Blk w1 (w.heap.size+1) 71 #[.int .i64 2,.int .i64 y,.int .i64 z,.int .i64 u,.int .i64 v]:=by rw [hw1];exact Qay
   clear hw1;have HSX:=Zh (show ∀ V,Below w1.heap.size w1 V→V.cell? ⟨w.heap.size,2,none⟩=some (.slice C k e)∧V.cell? ⟨w.heap.size+1,1,none⟩=some (.int .i64 y)∧V.cell? ⟨w.heap.size+1,2,none⟩=some (.int .i64 z)∧V.cell? ⟨w.heap.size+1,3,none⟩=some (.int .i64 u)∧decide (y<0)=true from fun V hV=>⟨by rw [(hX.below hV hX.lt).cell];rfl,by rw [(hY.below hV hY.lt).cell];rfl,by rw [(hY.below hV hY.lt).cell];rfl,by rw [(hY.below hV hY.lt).cell];rfl,decide_eq_true (by omega)⟩)
   refine wp_region_held_drew (S:=fun V=>Below w1.heap.size w1 V) (by kernel_rfl) (Zr _ _).drew (fun _=>?_);refine tz 0 24 ?_;refine tz 1 25 ?_;refine tz 2 26 ?_;refine tz 3 27 ?_;refine tw 4 28 ?_;refine tw 5 29 ?_;refine tw 6 30 ?_;refine tw 7 31 ?_;refine tw 8 32 ?_;refine tw 9 33 ?_;refine tz 10 34 ?_;refine tz 11 35 ?_;refine tw 12 36 ?_;refine tw 13 37 ?_;refine tw 14 38 ?_;refine tz 15 39 ?_;refine tz 16 40 ?_;refine tw 17 41 ?_;refine tw 18 42 ?_;refine tw 19 43 ?_;refine tw 20 44 ?_;refine tw 21 45 ?_;refine tw 22 46 ?_;refine tw 23 47 ?_;refine tw 24 48 ?_;refine tw 25 49 ?_;refine tw 26 50 ?_;refine tz 27 51 ?_;refine tz 28 52 ?_;refine tw 29 53 ?_;refine tw 30 54 ?_;refine tw 31 55 ?_;refine tz 32 56 ?_;refine tz 33 57 ?_;refine tw 34 58 ?_;refine tw 35 59 ?_;refine tw 36 60 ?_;refine tw 37 61 ?_;refine tw 38 62 ?_;refine tw 39 63 ?_;refine tw 40 64 ?_;refine tw 41 65 ?_;refine tw 42 66 ?_;refine tw 43 67 ?_;refine tz 44 68 ?_;refine Zd ?_;clear HSX
   go_wp2_with fail
   go_ret
   exact ⟨rfl,Zb hb1 Qae⟩
 obtain ⟨p,rfl⟩:∃ p:Nat,y=p:=⟨y.toNat,by omega⟩;clear hy0
 by_cases hp:p<k
 rotate_left
 · have ht:N.ts[p]?=none:=List.getElem?_eq_none (by omega)
   rw [if_pos (by rintro ⟨_,t0,g1,_⟩;simp only [Int.toNat_natCast] at g1;rw [ht] at g1;cases g1)] at hE
   subst hE;clear ht
   go_enter func50,ntmps50
   go_wp2_with fail
   (refine Qag ?_;intro w1 hw1)
   have hb1:Below w.heap.size w w1:=by rw [hw1];exact Qae
   have hX:Blk w1 w.heap.size 26 #[.slice A n c,.slice B m d,.slice C k e]:=by rw [hw1];exact Qay
   have hY:Blk w1 (w.heap.size+1) 71 #[.int .i64 2,.int .i64 p,.int .i64 z,.int .i64 u,.int .i64 v]:=by rw [hw1];exact Qay
   clear hw1;have HSX:=Zh (show ∀ V,Below w1.heap.size w1 V→V.cell? ⟨w.heap.size,2,none⟩=some (.slice C k e)∧V.cell? ⟨w.heap.size+1,1,none⟩=some (.int .i64 p)∧V.cell? ⟨w.heap.size+1,2,none⟩=some (.int .i64 z)∧V.cell? ⟨w.heap.size+1,3,none⟩=some (.int .i64 u)∧decide ((p:Int)<0)=false∧decide ((k:Int)≤(p:Int))=true∧decide (k≤p)=true from fun V hV=>⟨by rw [(hX.below hV hX.lt).cell];rfl,by rw [(hY.below hV hY.lt).cell];rfl,by rw [(hY.below hV hY.lt).cell];rfl,by rw [(hY.below hV hY.lt).cell];rfl,decide_eq_false (by omega),decide_eq_true (by omega),decide_eq_true (by omega)⟩)
   refine wp_region_held_drew (S:=fun V=>Below w1.heap.size w1 V) (by kernel_rfl) (Zr _ _).drew (fun _=>?_);refine tz 0 24 ?_;refine tz 1 25 ?_;refine tz 2 26 ?_;refine tz 3 27 ?_;refine tz 4 28 ?_;refine tz 5 29 ?_;refine tz 6 30 ?_;refine tz 7 31 ?_;refine tz 8 32 ?_;refine tz 9 33 ?_;refine tz 10 34 ?_;refine tz 11 35 ?_;refine tw 12 36 ?_;refine tw 13 37 ?_;refine tw 14 38 ?_;refine tz 15 39 ?_;refine tz 16 40 ?_;refine tw 17 41 ?_;refine tw 18 42 ?_;refine tw 19 43 ?_;refine tw 20 44 ?_;refine tw 21 45 ?_;refine tw 22 46 ?_;refine tw 23 47 ?_;refine tw 24 48 ?_;refine tw 25 49 ?_;refine tw 26 50 ?_;refine tz 27 51 ?_;refine tz 28 52 ?_;refine tw 29 53 ?_;refine tw 30 54 ?_;refine tw 31 55 ?_;refine tz 32 56 ?_;refine tz 33 57 ?_;refine tw 34 58 ?_;refine tw 35 59 ?_;refine tw 36 60 ?_;refine tw 37 61 ?_;refine tw 38 62 ?_;refine tw 39 63 ?_;refine tw 40 64 ?_;refine tw 41 65 ?_;refine tw 42 66 ?_;refine tw 43 67 ?_;refine tz 44 68 ?_;refine Zd ?_;clear HSX
   go_wp2_with fail
   go_ret
   exact ⟨rfl,Zb hb1 Qae⟩
 obtain ⟨t,ht⟩:∃ t,N.ts[p]?=some t:=⟨_,Zg (by omega)⟩;have HTT:=Zh ht
 have hE2:E=if ¬(0≤z∧z<t.ins∧0≤u∧u<t.outs) then 5 else if wOk v=true then 0 else 8:=by
  rw [hE]
  by_cases hb:Qmu N (2,(p:Int),z,u,v)
  · obtain ⟨_,t0,g1,g2,g3,g4,g5⟩:=id hb
    simp only [Int.toNat_natCast] at g1 g2 g3 g4 g5;rw [ht] at g1
    cases g1
    rw [if_neg (not_not_intro hb),if_neg (not_not_intro ⟨g2,g3,g4,g5⟩)]
  · rw [if_pos hb,if_pos (fun g=>hb ⟨by simp only;omega,t,by simpa using ht,g.1,g.2.1,g.2.2.1,g.2.2.2⟩)]
 clear hE ht;have hE:=hE2;clear hE2
 by_cases hz0:z<0
 · rw [if_pos (by omega)] at hE
   subst hE
   go_enter func50,ntmps50
   go_wp2_with fail
   (refine Qag ?_;intro w1 hw1)
   have hb1:Below w.heap.size w w1:=by rw [hw1];exact Qae
   have hX:Blk w1 w.heap.size 26 #[.slice A n c,.slice B m d,.slice C k e]:=by rw [hw1];exact Qay
   have hY:Blk w1 (w.heap.size+1) 71 #[.int .i64 2,.int .i64 p,.int .i64 z,.int .i64 u,.int .i64 v]:=by rw [hw1];exact Qay
   clear hw1;obtain ⟨tb,to_,eC,d0,d1,A2,n2,c2,d2,hr2,hcap2⟩:=((HH.out.below hb1).2.2).2 p _ HTT.out;subst eC
   try simp only at d0 d1
   clear d2 hr2 hcap2;have HSX:=Zh (show ∀ V,Below w1.heap.size w1 V→V.cell? ⟨w.heap.size,2,none⟩=some (.slice (some ⟨tb,to_,none⟩) k e)∧V.cell? ⟨w.heap.size+1,1,none⟩=some (.int .i64 p)∧V.cell? ⟨w.heap.size+1,2,none⟩=some (.int .i64 z)∧V.cell? ⟨w.heap.size+1,3,none⟩=some (.int .i64 u)∧V.cell? ⟨tb,to_+p*3,none⟩=some (.int .i64 t.ins)∧V.cell? ⟨tb,to_+p*3+1,none⟩=some (.int .i64 t.outs)∧decide ((p:Int)<0)=false∧decide ((k:Int)≤(p:Int))=false∧decide (k≤p)=false∧decide (z<0)=true from fun V hV=>⟨by rw [(hX.below hV hX.lt).cell];rfl,by rw [(hY.below hV hY.lt).cell];rfl,by rw [(hY.below hV hY.lt).cell];rfl,by rw [(hY.below hV hY.lt).cell];rfl,Zc hV (Zn _) d0,Zc hV (Zn _) d1,decide_eq_false (by omega),decide_eq_false (by omega),decide_eq_false (by omega),decide_eq_true (by omega)⟩)
   refine wp_region_held_drew (S:=fun V=>Below w1.heap.size w1 V) (by kernel_rfl) (Zr _ _).drew (fun _=>?_);refine tz 0 24 ?_;refine tz 1 25 ?_;refine tz 2 26 ?_;refine tz 3 27 ?_;refine tz 4 28 ?_;refine tz 5 29 ?_;refine tz 6 30 ?_;refine tz 7 31 ?_;refine tz 8 32 ?_;refine tz 9 33 ?_;refine tz 10 34 ?_;refine tz 11 35 ?_;refine tz 12 36 ?_;refine tz 13 37 ?_;refine tz 14 38 ?_;refine tz 15 39 ?_;refine tz 16 40 ?_;refine tw 17 41 ?_;refine tw 18 42 ?_;refine tw 19 43 ?_;refine tw 20 44 ?_;refine tw 21 45 ?_;refine tw 22 46 ?_;refine tw 23 47 ?_;refine tw 24 48 ?_;refine tw 25 49 ?_;refine tw 26 50 ?_;refine tz 27 51 ?_;refine tz 28 52 ?_;refine tw 29 53 ?_;refine tw 30 54 ?_;refine tw 31 55 ?_;refine tz 32 56 ?_;refine tz 33 57 ?_;refine tw 34 58 ?_;refine tw 35 59 ?_;refine tw 36 60 ?_;refine tw 37 61 ?_;refine tw 38 62 ?_;refine tw 39 63 ?_;refine tw 40 64 ?_;refine tw 41 65 ?_;refine tw 42 66 ?_;refine tw 43 67 ?_;refine tz 44 68 ?_;refine Zd ?_;clear HSX
   go_wp2_with fail
   go_ret
   exact ⟨rfl,Zb hb1 Qae⟩
 by_cases hzi:t.ins≤z
 · rw [if_pos (by omega)] at hE
   subst hE
   go_enter func50,ntmps50
   go_wp2_with fail
   (refine Qag ?_;intro w1 hw1)
   have hb1:Below w.heap.size w w1:=by rw [hw1];exact Qae
   have hX:Blk w1 w.heap.size 26 #[.slice A n c,.slice B m d,.slice C k e]:=by rw [hw1];exact Qay
   have hY:Blk w1 (w.heap.size+1) 71 #[.int .i64 2,.int .i64 p,.int .i64 z,.int .i64 u,.int .i64 v]:=by rw [hw1];exact Qay
   clear hw1;obtain ⟨tb,to_,eC,d0,d1,A2,n2,c2,d2,hr2,hcap2⟩:=((HH.out.below hb1).2.2).2 p _ HTT.out;subst eC
   try simp only at d0 d1
   clear d2 hr2 hcap2;have HSX:=Zh (show ∀ V,Below w1.heap.size w1 V→V.cell? ⟨w.heap.size,2,none⟩=some (.slice (some ⟨tb,to_,none⟩) k e)∧V.cell? ⟨w.heap.size+1,1,none⟩=some (.int .i64 p)∧V.cell? ⟨w.heap.size+1,2,none⟩=some (.int .i64 z)∧V.cell? ⟨w.heap.size+1,3,none⟩=some (.int .i64 u)∧V.cell? ⟨tb,to_+p*3,none⟩=some (.int .i64 t.ins)∧V.cell? ⟨tb,to_+p*3+1,none⟩=some (.int .i64 t.outs)∧decide ((p:Int)<0)=false∧decide ((k:Int)≤(p:Int))=false∧decide (k≤p)=false∧decide (z<0)=false∧decide (t.ins≤z)=true from fun V hV=>⟨by rw [(hX.below hV hX.lt).cell];rfl,by rw [(hY.below hV hY.lt).cell];rfl,by rw [(hY.below hV hY.lt).cell];rfl,by rw [(hY.below hV hY.lt).cell];rfl,Zc hV (Zn _) d0,Zc hV (Zn _) d1,decide_eq_false (by omega),decide_eq_false (by omega),decide_eq_false (by omega),decide_eq_false (by omega),decide_eq_true (by omega)⟩)
   refine wp_region_held_drew (S:=fun V=>Below w1.heap.size w1 V) (by kernel_rfl) (Zr _ _).drew (fun _=>?_);refine tz 0 24 ?_;refine tz 1 25 ?_;refine tz 2 26 ?_;refine tz 3 27 ?_;refine tz 4 28 ?_;refine tz 5 29 ?_;refine tz 6 30 ?_;refine tz 7 31 ?_;refine tz 8 32 ?_;refine tz 9 33 ?_;refine tz 10 34 ?_;refine tz 11 35 ?_;refine tz 12 36 ?_;refine tz 13 37 ?_;refine tz 14 38 ?_;refine tz 15 39 ?_;refine tz 16 40 ?_;refine tz 17 41 ?_;refine tz 18 42 ?_;refine tz 19 43 ?_;refine tz 20 44 ?_;refine tz 21 45 ?_;refine tz 22 46 ?_;refine tz 23 47 ?_;refine tz 24 48 ?_;refine tz 25 49 ?_;refine tz 26 50 ?_;refine tz 27 51 ?_;refine tz 28 52 ?_;refine tw 29 53 ?_;refine tw 30 54 ?_;refine tw 31 55 ?_;refine tz 32 56 ?_;refine tz 33 57 ?_;refine tw 34 58 ?_;refine tw 35 59 ?_;refine tw 36 60 ?_;refine tw 37 61 ?_;refine tw 38 62 ?_;refine tw 39 63 ?_;refine tw 40 64 ?_;refine tw 41 65 ?_;refine tw 42 66 ?_;refine tw 43 67 ?_;refine tz 44 68 ?_;refine Zd ?_;clear HSX
   go_wp2_with fail
   go_ret
   exact ⟨rfl,Zb hb1 Qae⟩
 by_cases hu0:u<0
 · rw [if_pos (by omega)] at hE
   subst hE
   go_enter func50,ntmps50
   go_wp2_with fail
   (refine Qag ?_;intro w1 hw1)
   have hb1:Below w.heap.size w w1:=by rw [hw1];exact Qae
   have hX:Blk w1 w.heap.size 26 #[.slice A n c,.slice B m d,.slice C k e]:=by rw [hw1];exact Qay
   have hY:Blk w1 (w.heap.size+1) 71 #[.int .i64 2,.int .i64 p,.int .i64 z,.int .i64 u,.int .i64 v]:=by rw [hw1];exact Qay
   clear hw1;obtain ⟨tb,to_,eC,d0,d1,A2,n2,c2,d2,hr2,hcap2⟩:=((HH.out.below hb1).2.2).2 p _ HTT.out;subst eC
   try simp only at d0 d1
   clear d2 hr2 hcap2;have HSX:=Zh (show ∀ V,Below w1.heap.size w1 V→V.cell? ⟨w.heap.size,2,none⟩=some (.slice (some ⟨tb,to_,none⟩) k e)∧V.cell? ⟨w.heap.size+1,1,none⟩=some (.int .i64 p)∧V.cell? ⟨w.heap.size+1,2,none⟩=some (.int .i64 z)∧V.cell? ⟨w.heap.size+1,3,none⟩=some (.int .i64 u)∧V.cell? ⟨tb,to_+p*3,none⟩=some (.int .i64 t.ins)∧V.cell? ⟨tb,to_+p*3+1,none⟩=some (.int .i64 t.outs)∧decide ((p:Int)<0)=false∧decide ((k:Int)≤(p:Int))=false∧decide (k≤p)=false∧decide (z<0)=false∧decide (t.ins≤z)=false∧decide (u<0)=true from fun V hV=>⟨by rw [(hX.below hV hX.lt).cell];rfl,by rw [(hY.below hV hY.lt).cell];rfl,by rw [(hY.below hV hY.lt).cell];rfl,by rw [(hY.below hV hY.lt).cell];rfl,Zc hV (Zn _) d0,Zc hV (Zn _) d1,decide_eq_false (by omega),decide_eq_false (by omega),decide_eq_false (by omega),decide_eq_false (by omega),decide_eq_false (by omega),decide_eq_true (by omega)⟩)
   refine wp_region_held_drew (S:=fun V=>Below w1.heap.size w1 V) (by kernel_rfl) (Zr _ _).drew (fun _=>?_);refine tz 0 24 ?_;refine tz 1 25 ?_;refine tz 2 26 ?_;refine tz 3 27 ?_;refine tz 4 28 ?_;refine tz 5 29 ?_;refine tz 6 30 ?_;refine tz 7 31 ?_;refine tz 8 32 ?_;refine tz 9 33 ?_;refine tz 10 34 ?_;refine tz 11 35 ?_;refine tz 12 36 ?_;refine tz 13 37 ?_;refine tz 14 38 ?_;refine tz 15 39 ?_;refine tz 16 40 ?_;refine tz 17 41 ?_;refine tz 18 42 ?_;refine tz 19 43 ?_;refine tz 20 44 ?_;refine tz 21 45 ?_;refine tz 22 46 ?_;refine tz 23 47 ?_;refine tz 24 48 ?_;refine tz 25 49 ?_;refine tz 26 50 ?_;refine tz 27 51 ?_;refine tz 28 52 ?_;refine tz 29 53 ?_;refine tz 30 54 ?_;refine tz 31 55 ?_;refine tz 32 56 ?_;refine tz 33 57 ?_;refine tw 34 58 ?_;refine tw 35 59 ?_;refine tw 36 60 ?_;refine tw 37 61 ?_;refine tw 38 62 ?_;refine tw 39 63 ?_;refine tw 40 64 ?_;refine tw 41 65 ?_;refine tw 42 66 ?_;refine tw 43 67 ?_;refine tz 44 68 ?_;refine Zd ?_;clear HSX
   go_wp2_with fail
   go_ret
   exact ⟨rfl,Zb hb1 Qae⟩
 by_cases huo:t.outs≤u
 · rw [if_pos (by omega)] at hE
   subst hE
   go_enter func50,ntmps50
   go_wp2_with fail
   (refine Qag ?_;intro w1 hw1)
   have hb1:Below w.heap.size w w1:=by rw [hw1];exact Qae
   have hX:Blk w1 w.heap.size 26 #[.slice A n c,.slice B m d,.slice C k e]:=by rw [hw1];exact Qay
   have hY:Blk w1 (w.heap.size+1) 71 #[.int .i64 2,.int .i64 p,.int .i64 z,.int .i64 u,.int .i64 v]:=by rw [hw1];exact Qay
   clear hw1;obtain ⟨tb,to_,eC,d0,d1,A2,n2,c2,d2,hr2,hcap2⟩:=((HH.out.below hb1).2.2).2 p _ HTT.out;subst eC
   try simp only at d0 d1
   clear d2 hr2 hcap2;have HSX:=Zh (show ∀ V,Below w1.heap.size w1 V→V.cell? ⟨w.heap.size,2,none⟩=some (.slice (some ⟨tb,to_,none⟩) k e)∧V.cell? ⟨w.heap.size+1,1,none⟩=some (.int .i64 p)∧V.cell? ⟨w.heap.size+1,2,none⟩=some (.int .i64 z)∧V.cell? ⟨w.heap.size+1,3,none⟩=some (.int .i64 u)∧V.cell? ⟨tb,to_+p*3,none⟩=some (.int .i64 t.ins)∧V.cell? ⟨tb,to_+p*3+1,none⟩=some (.int .i64 t.outs)∧decide ((p:Int)<0)=false∧decide ((k:Int)≤(p:Int))=false∧decide (k≤p)=false∧decide (z<0)=false∧decide (t.ins≤z)=false∧decide (u<0)=false∧decide (t.outs≤u)=true from fun V hV=>⟨by rw [(hX.below hV hX.lt).cell];rfl,by rw [(hY.below hV hY.lt).cell];rfl,by rw [(hY.below hV hY.lt).cell];rfl,by rw [(hY.below hV hY.lt).cell];rfl,Zc hV (Zn _) d0,Zc hV (Zn _) d1,decide_eq_false (by omega),decide_eq_false (by omega),decide_eq_false (by omega),decide_eq_false (by omega),decide_eq_false (by omega),decide_eq_false (by omega),decide_eq_true (by omega)⟩)
   refine wp_region_held_drew (S:=fun V=>Below w1.heap.size w1 V) (by kernel_rfl) (Zr _ _).drew (fun _=>?_);refine tz 0 24 ?_;refine tz 1 25 ?_;refine tz 2 26 ?_;refine tz 3 27 ?_;refine tz 4 28 ?_;refine tz 5 29 ?_;refine tz 6 30 ?_;refine tz 7 31 ?_;refine tz 8 32 ?_;refine tz 9 33 ?_;refine tz 10 34 ?_;refine tz 11 35 ?_;refine tz 12 36 ?_;refine tz 13 37 ?_;refine tz 14 38 ?_;refine tz 15 39 ?_;refine tz 16 40 ?_;refine tz 17 41 ?_;refine tz 18 42 ?_;refine tz 19 43 ?_;refine tz 20 44 ?_;refine tz 21 45 ?_;refine tz 22 46 ?_;refine tz 23 47 ?_;refine tz 24 48 ?_;refine tz 25 49 ?_;refine tz 26 50 ?_;refine tz 27 51 ?_;refine tz 28 52 ?_;refine tz 29 53 ?_;refine tz 30 54 ?_;refine tz 31 55 ?_;refine tz 32 56 ?_;refine tz 33 57 ?_;refine tz 34 58 ?_;refine tz 35 59 ?_;refine tz 36 60 ?_;refine tz 37 61 ?_;refine tz 38 62 ?_;refine tz 39 63 ?_;refine tz 40 64 ?_;refine tz 41 65 ?_;refine tz 42 66 ?_;refine tz 43 67 ?_;refine tz 44 68 ?_;refine Zd ?_;clear HSX
   go_wp2_with fail
   go_ret
   exact ⟨rfl,Zb hb1 Qae⟩
 rw [if_neg (by omega)] at hE
 go_enter func50,ntmps50
 go_wp2_with fail
 (refine Qag ?_;intro w1 hw1)
 have hb1:Below w.heap.size w w1:=by rw [hw1];exact Qae
 have hX:Blk w1 w.heap.size 26 #[.slice A n c,.slice B m d,.slice C k e]:=by rw [hw1];exact Qay
 have hY:Blk w1 (w.heap.size+1) 71 #[.int .i64 2,.int .i64 p,.int .i64 z,.int .i64 u,.int .i64 v]:=by rw [hw1];exact Qay
 clear hw1;obtain ⟨tb,to_,eC,d0,d1,A2,n2,c2,d2,hr2,hcap2⟩:=((HH.out.below hb1).2.2).2 p _ HTT.out;subst eC
 try simp only at d0 d1
 clear d2 hr2 hcap2;have HSX:=Zh (show ∀ V,Below w1.heap.size w1 V→V.cell? ⟨w.heap.size,2,none⟩=some (.slice (some ⟨tb,to_,none⟩) k e)∧V.cell? ⟨w.heap.size+1,1,none⟩=some (.int .i64 p)∧V.cell? ⟨w.heap.size+1,2,none⟩=some (.int .i64 z)∧V.cell? ⟨w.heap.size+1,3,none⟩=some (.int .i64 u)∧V.cell? ⟨tb,to_+p*3,none⟩=some (.int .i64 t.ins)∧V.cell? ⟨tb,to_+p*3+1,none⟩=some (.int .i64 t.outs)∧decide ((p:Int)<0)=false∧decide ((k:Int)≤(p:Int))=false∧decide (k≤p)=false∧decide (z<0)=false∧decide (t.ins≤z)=false∧decide (u<0)=false∧decide (t.outs≤u)=false from fun V hV=>⟨by rw [(hX.below hV hX.lt).cell];rfl,by rw [(hY.below hV hY.lt).cell];rfl,by rw [(hY.below hV hY.lt).cell];rfl,by rw [(hY.below hV hY.lt).cell];rfl,Zc hV (Zn _) d0,Zc hV (Zn _) d1,decide_eq_false (by omega),decide_eq_false (by omega),decide_eq_false (by omega),decide_eq_false (by omega),decide_eq_false (by omega),decide_eq_false (by omega),decide_eq_false (by omega)⟩)
 refine wp_region_held_drew (S:=fun V=>Below w1.heap.size w1 V) (by kernel_rfl) (Zr _ _).drew (fun _=>?_);refine tz 0 24 ?_;refine tz 1 25 ?_;refine tz 2 26 ?_;refine tz 3 27 ?_;refine tz 4 28 ?_;refine tz 5 29 ?_;refine tz 6 30 ?_;refine tz 7 31 ?_;refine tz 8 32 ?_;refine tz 9 33 ?_;refine tz 10 34 ?_;refine tz 11 35 ?_;refine tz 12 36 ?_;refine tz 13 37 ?_;refine tz 14 38 ?_;refine tz 15 39 ?_;refine tz 16 40 ?_;refine tz 17 41 ?_;refine tz 18 42 ?_;refine tz 19 43 ?_;refine tz 20 44 ?_;refine tz 21 45 ?_;refine tz 22 46 ?_;refine tz 23 47 ?_;refine tz 24 48 ?_;refine tz 25 49 ?_;refine tz 26 50 ?_;refine tz 27 51 ?_;refine tz 28 52 ?_;refine tz 29 53 ?_;refine tz 30 54 ?_;refine tz 31 55 ?_;refine tz 32 56 ?_;refine tz 33 57 ?_;refine tz 34 58 ?_;refine tz 35 59 ?_;refine tz 36 60 ?_;refine tz 37 61 ?_;refine tz 38 62 ?_;refine tz 39 63 ?_;refine tz 40 64 ?_;refine tz 41 65 ?_;refine tz 42 66 ?_;refine tz 43 67 ?_;refine tz 44 68 ?_;refine Zd ?_;clear HSX;have x4:w1.cell? ⟨w.heap.size+1,4,none⟩=some (.int .i64 v):=Zq hY;have xl:=hY.lt;have HB2:=Zh (show Below w.heap.size w w1.drew from hb1.drew)
 have HWT:=Zh (Qcz v w1.drew)
 cases hw:wOk v with
 | true =>
  rw [hw,if_pos rfl] at hE;subst hE
  go_wp2_with fail
  with_reducible refine HWT.out.mono ?_
  rintro r w' ⟨rfl,rfl⟩;rw [hw]
  go_wp2_with fail
  go_ret
  exact ⟨rfl,HB2.out⟩
 | false =>
  rw [hw,if_neg (by simp)] at hE;subst hE
  go_wp2_with fail
  with_reducible refine HWT.out.mono ?_
  rintro r w' ⟨rfl,rfl⟩;rw [hw]
  go_wp2_with fail
  go_ret
  exact ⟨rfl,HB2.out⟩
end Go.Proofs.YthoagdpakddbdaaGreatDoor
