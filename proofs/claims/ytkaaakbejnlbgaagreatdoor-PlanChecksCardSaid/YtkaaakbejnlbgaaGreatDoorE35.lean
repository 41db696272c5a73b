/- Qbl of the proof: ReJ. -/
import Derived.Test.YtkaaakbejnlbgaaGreatDoorE21
import Derived.Test.YtkaaakbejnlbgaaGreatDoorE31
set_option maxHeartbeats 2000000
namespace Go.Proofs.YtkaaakbejnlbgaaGreatDoor
open Go.RowKit Go.Proofs.Tryz
attribute [local go_sem ↓] Go.wp_at_zero Go.wp_at_succ
theorem stopF_c {m:Int}{k:Nat}{p:Int×Int}{c:Int}(h:Qeo m k p=some c):c≠0:=by
 unfold Qeo at h;split at h
 {cases h;decide};split at h
 {cases h;decide};{cases h}
theorem Rfd {α:Type}{f:Nat→α→Option Int}(hf:∀ k p c,f k p=some c→c≠0):∀ {l:List α} {k i:Nat} {c:Int},Qha f k l=some (i,c)→c≠0
 | [],_,_,_,h=>by cases h
 | x::l,k,i,c,h=>by
  unfold Qha at h
  cases hx:f (k+1) x with
  | some c'=>rw [hx] at h;cases h;exact hf _ _ _ hx
  | none=>rw [hx] at h;exact Rfd hf h
theorem Qsa {m dep cap lim:Int} {st:Pz} {p:ByteArray} {k c:Int} (h:Qbf m dep cap lim st=some (p,k,c)):c≠0:=by
 unfold Qbf at h;split at h
 {cases h;decide};split at h
 {cases h;decide};split at h
 {cases h;decide};split at h
 {cases h;decide};unfold Qeb at h;obtain ⟨⟨i,c'⟩,h1,h2⟩:=Option.map_eq_some_iff.1 h;cases h2;exact Rfd (fun _ _ _=>stopF_c) h1
def WgP (w:World) (b:Option (ByteArray×Int×Int)) (e:Ending) (w':World):Prop:=(match b with|none=>e=.returned (.agg #[.slice none 0 0,.int .i64 0])|some (p,k,c)=>∃ A n m,e=.returned (.agg #[.slice A n m,.int .i64 c])∧RdW w' A n [(p,k)]∧n≤1000000∧∀ b,Qaa A=some b→w.heap.size≤b∧b<w'.heap.size)∧Bw w w'
theorem Qhn (m:Nat)(dep cap lim:Int)(A:Oz)(n c:Nat) (st:Pz) (w:World) (h:RdP w A n st) (hn:n≤1000000) :
 Calls prog 29 #[.int .i64 m,Qia dep cap lim A n c] w (WgP w (Qbf m dep cap lim st)):=by
 obtain ⟨jb,hjb⟩:=Zx (Qbf m dep cap lim st);have HJB:=Zh hjb;rw [←hjb];have HR:=Zh h;have HLN:=Zh h.1;clear h hjb;go_enter func29,ntmps29
 obtain ⟨W1,hW1⟩:=Zx ((w.alloc (.cells #[.int .i64 dep,.int .i64 cap,.int .i64 lim,.slice A n c] 32)).alloc (.cells #[.slice none 0 0,.int .i64 0] 53));have HBL:=Zh (show Bw w W1 by rw [hW1];exact Qag);have HJX:=Zh (show Blk W1 w.heap.size 32 #[.int .i64 dep,.int .i64 cap,.int .i64 lim,.slice A n c] by rw [hW1];exact Qbi);have HRE:=Zh (show Blk W1 (w.heap.size+1) 53 #[.slice none 0 0,.int .i64 0] by rw [hW1];exact Qbi);have HW1:=Zh hW1;clear hW1;by_cases g1:dep<0
 {have HE:=Zh (show Qbf m dep cap lim st=some ((⟨#[106,111,98]⟩:ByteArray),0,5) from if_pos (.inl g1));exact Kdi};by_cases g2:dep ≥ (m:Int);{have HE:=Zh (show Qbf m dep cap lim st=some ((⟨#[106,111,98]⟩:ByteArray),0,5) from if_pos (.inr g2));exact Kdi};by_cases g3:cap<0
 {have HE:=Zh (show Qbf m dep cap lim st=some ((⟨#[106,111,98]⟩:ByteArray),1,1) by unfold Qbf;rw [if_neg Oo,if_pos (.inl g3)]);exact Kbb};by_cases g4:cap > 2147483648;{have HE:=Zh (show Qbf m dep cap lim st=some ((⟨#[106,111,98]⟩:ByteArray),1,1) by unfold Qbf;rw [if_neg Oo,if_pos (.inr g4)]);exact Kbb};by_cases g5:lim<0
 {have HE:=Zh (show Qbf m dep cap lim st=some ((⟨#[106,111,98]⟩:ByteArray),2,1) by unfold Qbf;rw [if_neg Oo,if_neg Oo,if_pos (.inl g5)]);exact Kbb};by_cases g6:lim > 1152921504606846976;{have HE:=Zh (show Qbf m dep cap lim st=some ((⟨#[106,111,98]⟩:ByteArray),2,1) by unfold Qbf;rw [if_neg Oo,if_neg Oo,if_pos (.inr g6)]);exact Kbb};by_cases g7:(n:Int) > 32;{have HE:=Zh (show Qbf m dep cap lim st=some ((⟨#[106,111,98]⟩:ByteArray),3,4) by unfold Qbf;rw [if_neg Oo,if_neg Oo,if_neg Oo,if_pos (by rw [HLN.o];omega)]);(go_wp2_with fail);(rw [←HW1.o];have hR:=HRE.o;have hb:=HBL.o;with_reducible refine (Qdo _ _ _ _).mono ?_);rintro e w3 ⟨A4,n4,m4,rfl,h4,hA4,h5,hb3⟩;have hB3:=hR.below hb3 hR.lt;obtain ⟨d0,d1,f0,f1⟩:=hB3.two;have hbw3:=Zb hb hb3;have HW:=Zh ((h4.setFar (w.heap.size+1) 0 (.slice A4 n4 m4) (fun b e=>⟨by have:=(hA4 b e).1;have:=hR.lt;omega,(hA4 b e).2⟩)).setFar (w.heap.size+1) 1 (.int .i64 4) (fun b e=>⟨by have:=(hA4 b e).1;have:=hR.lt;omega,by simpa [World.setCell] using (hA4 b e).2⟩));have hbw4:Bw w ((w3.setCell ⟨w.heap.size+1,0,none⟩ (.slice A4 n4 m4)).setCell ⟨w.heap.size+1,1,none⟩ (.int .i64 4)):=(hbw3.setCell Sn _).setCell Sn _;have HFR:=Zh (show ∀ b,Qaa A4=some b→w.heap.size≤b∧b<((w3.setCell ⟨w.heap.size+1,0,none⟩ (.slice A4 n4 m4)).setCell ⟨w.heap.size+1,1,none⟩ (.int .i64 4)).heap.size from fun b e=>⟨by have:=(hA4 b e).1;have:=hR.lt;omega,by simpa [World.setCell] using (hA4 b e).2⟩);clear h4 hA4 hb3;(go_wp2_with fail);refine bodyPost_ret (v:=.agg #[.slice A4 n4 m4,.int .i64 4]) (by simp [results,results29,go_sem,d0,d1]) rfl ?_;rw [show jb=some _ from HJB.o.trans HE.o];exact ⟨⟨_,_,_,rfl,HW.o,h5,HFR.o⟩,hbw4⟩};have HJ0:=Zh (show jb=Qeb (Qha (Qeo m) 0 (st.drop 0)) by rw [HJB.o];unfold Qbf;rw [if_neg Oo,if_neg Oo,if_neg Oo,if_neg (by rw [HLN.o];omega)];rfl);go_wp2_with fail
 rw [←HW1.o];clear HW1;go_loopw [5] (fun q W=>∃ k:Nat,k≤n∧q=.int .i64 k∧jb=Qeb (Qha (Qeo m) k (st.drop k))∧Bw W1 W) (fun q _=>n-(intOf q).toNat)
 case atStart=>exact ⟨0,Nat.zero_le _,rfl,HJ0.o,Zr _ _⟩
 case round =>
  clear HJ0 HJB;obtain ⟨k,hk,rfl,hj,hb⟩:=hrel;have HJB:=Zh hj;have hJr:=HJX.o.below hb HJX.o.lt;have x3:wr.cell? ⟨w.heap.size,3,none⟩=some (.slice A n c):=Zq hJr;have HRr:=Zh (HRE.o.below hb HRE.o.lt);have HBr:=Zh (Zb HBL.o hb);clear hj hJr;by_cases hlt:k<n
  rotate_left;{(obtain rfl:k=n:=Oo);(have i1:¬(k:Int)<k:=Oo);have HE:=Zh (show jb=none by rw [HJB.o,Qhv (by rw [HLN.o];exact Zn _)];rfl);obtain ⟨d0,d1,f0,f1⟩:=HRr.o.two;have hbw4:Bw w ((wr.setCell ⟨w.heap.size+1,0,none⟩ (.slice none 0 0)).setCell ⟨w.heap.size+1,1,none⟩ (.int .i64 0)):=(HBr.o.setCell Sn _).setCell Sn _;clear hb;(go_wp2_with fail);refine bodyPost_ret (v:=.agg #[.slice none 0 0,.int .i64 0]) (by simp [results,results29,go_sem,d0,d1]) rfl ?_;rw [HE.o];exact ⟨rfl,hbw4⟩};obtain ⟨sb,so,x,y,rfl,hx,hcx,hcy⟩:=HR.o.at_ hlt;have HX:=Zh hx;have j1:=Zc HBr.o (Zn _) hcx;have j2:=Zc HBr.o (Zn _) hcy;have i1:(k:Int)<n:=Oo
  have i2:0≤(k:Int):=Oo
  have wk:IntKind.i64.wrap ((k:Int)+1)=(k:Int)+1:=IntWalk.i64_in _ Oo;have HBN:=Zh (show Bw W1 (wr.alloc (.cells #[.int .i64 x,.int .i64 y] 82)) from Bel.alloc hb);clear hx hcx hcy hb;by_cases g1:x<0
  {have HE:=Zh (show Qeb (Qha (Qeo m) k (st.drop k))=some ((⟨#[115,116,111,112]⟩:ByteArray),(k:Int)+1,5) by rw [Qcc HX.o (c:=5) (if_pos (.inl g1))];rfl);(go_wp2_with fail);(refine Qab ?_;intro w5 hw5);have hR:=HRr.o.below (show Bw wr w5 by rw [hw5];exact Qag) HRr.o.lt;have hb:=Zb HBr.o (show Bw wr w5 by rw [hw5];exact Qag);(clear hw5;with_reducible refine (Qdo _ _ _ _).mono ?_);exact Kad};by_cases g2:x ≥ (m:Int);{have HE:=Zh (show Qeb (Qha (Qeo m) k (st.drop k))=some ((⟨#[115,116,111,112]⟩:ByteArray),(k:Int)+1,5) by rw [Qcc HX.o (c:=5) (if_pos (.inr g2))];rfl);(go_wp2_with fail);(refine Qab ?_;intro w5 hw5);have hR:=HRr.o.below (show Bw wr w5 by rw [hw5];exact Qag) HRr.o.lt;have hb:=Zb HBr.o (show Bw wr w5 by rw [hw5];exact Qag);(clear hw5;with_reducible refine (Qdo _ _ _ _).mono ?_);exact Kad};by_cases g3:y<0
  {have HE:=Zh (show Qeb (Qha (Qeo m) k (st.drop k))=some ((⟨#[115,116,111,112]⟩:ByteArray),(k:Int)+1,1) by rw [Qcc HX.o (c:=1) (by unfold Qeo;rw [if_neg Sn,if_pos (.inl g3)])];rfl);(go_wp2_with fail);(refine Qab ?_;intro w5 hw5);have hR:=HRr.o.below (show Bw wr w5 by rw [hw5];exact Qag) HRr.o.lt;have hb:=Zb HBr.o (show Bw wr w5 by rw [hw5];exact Qag);(clear hw5;with_reducible refine (Qdo _ _ _ _).mono ?_);exact Kab};by_cases g4:y > 2147483648;{have HE:=Zh (show Qeb (Qha (Qeo m) k (st.drop k))=some ((⟨#[115,116,111,112]⟩:ByteArray),(k:Int)+1,1) by rw [Qcc HX.o (c:=1) (by unfold Qeo;rw [if_neg Sn,if_pos (.inr g4)])];rfl);(go_wp2_with fail);(refine Qab ?_;intro w5 hw5);have hR:=HRr.o.below (show Bw wr w5 by rw [hw5];exact Qag) HRr.o.lt;have hb:=Zb HBr.o (show Bw wr w5 by rw [hw5];exact Qag);(clear hw5;with_reducible refine (Qdo _ _ _ _).mono ?_);exact Kab};have HN:=Zh (Qfs HX.o (show Qeo m (k+1) (x,y)=none by unfold Qeo;rw [if_neg Sn,if_neg Sn]));go_wp2_with fail
  go_roundw;case rel=>exact ⟨k+1,Oo,by go_num,by rw [←HN.o];exact HJB.o,HBN.o⟩
  case measure=>simp [intOf];omega
theorem Qkg (dep cap lim:Int)(A:Oz)(n c:Nat) (st:Pz) (w:World) (h:RdP w A n st) (hn:n≤1000000) :
 Calls prog 30 #[Qia dep cap lim A n c] w (PtsP w (n+1) (Qif dep st)):=by
 have HR:=Zh h;have HLN:=Zh h.1;clear h;go_enter func30,ntmps30
 go_wp2_with fail
 (refine Qai ?_;intro w1 hw1);have HB1:=Zh (show Bw w w1 by rw [hw1];exact Qag);have HX1:=Zh (show Blk w1 w.heap.size 32 #[.int .i64 dep,.int .i64 cap,.int .i64 lim,.slice A n c] by rw [hw1];exact Qbi)
 have HO1:=Zh (show Own w1 (w.heap.size+1) 3 1 (some ⟨w.heap.size+1,0,none⟩) 1 1 (Qae (Qif dep (st.take 0))) by
  have h:=Own.lit (B:=w.heap.size+1) (s:=1) (e:=3) (w.alloc (.cells #[.int .i64 dep,.int .i64 cap,.int .i64 lim,.slice A n c] 32)) #[.int .i64 dep] 1 Sm Oo rfl;rw [hw1];rw [show Qae (Qif dep (st.take 0))=[.int .i64 dep] from rfl]
  simpa using h)
 clear hw1;go_loopw [3,4] (fun z q W=>∃ (k:Nat) (R:Oz) (d:Nat),k≤n∧q=.int .i64 k∧z=.slice R (k+1) d∧Own W (w.heap.size+1) 3 1 R (k+1) d (Qae (Qif dep (st.take k)))∧Below (w.heap.size+1) w1 W) (fun _ q _=>n-(intOf q).toNat)
 case atStart=>exact ⟨0,_,1,Nat.zero_le _,rfl,rfl,HO1.o,Zr _ _⟩
 case round =>
  clear HO1;obtain ⟨k,R1,d1,hk,rfl,rfl,ho,hb⟩:=hrel;have HO:=Zh ho;have HB:=Zh hb;have hJr:=HX1.o.below hb Oo;have x3:wr.cell? ⟨w.heap.size,3,none⟩=some (.slice A n c):=Zq hJr;clear ho hb hJr;by_cases hlt:k<n
  rotate_left;{(obtain rfl:k=n:=Oo);(have i1:¬(k:Int)<k:=Oo);(go_wp2_with fail);go_ret;refine ⟨⟨R1,d1,rfl,?_⟩,HB1.o.trans (HB.o.mono Oo)⟩;have h:=HO.o.rds.rdI;rwa [Ye (by rw [HLN.o];exact Zn _)] at h};obtain ⟨sb,so,x,y,rfl,hx,hcx,hcy⟩:=HR.o.at_ hlt;have HX:=Zh hx;have hbw:=HB1.o.trans (HB.o.mono (Nat.le_succ _));have j1:=Zc hbw (Zn _) hcx;have i1:(k:Int)<n:=Oo
  have i2:0≤(k:Int):=Oo
  obtain ⟨W2,hW2⟩:=Zx (wr.alloc (.cells #[.int .i64 x] 3));have hb2:Bw wr W2:=by rw [hW2];exact Qag
  have hrd:Rds W2 1 (some ⟨wr.heap.size,0,none⟩) 1 (Qae [x]):=by rw [hW2];exact (Blk.new wr 3 #[.int .i64 x]).rds rfl
  have hown:=HO.o.below hb2;have hsz:w.heap.size+1≤W2.heap.size:=by have:=HB.o.size;have:=HX1.o.lt;have:=hb2.size;omega
  have HW2:=Zh hW2;have HB2:=Zh (HB.o.trans (hb2.mono (by have:=HB.o.size;have:=HX1.o.lt;omega)));clear hW2 hb2 hx hcx hcy hbw;go_wp2_with (at_builtin;rw [←HW2.o];with_reducible refine Qam rfl (.tmp 15) (.tmp 22) 64 rfl 3 _ 1 8 Qbm underlying64 rfl Oo rfl rfl hown hrd (Qaq _) Oo Oo hsz ?_)
  intro R2 d2 w4 ho4 hg4 _;have HB4:=Zh (Zo HB2.o hg4 hown hsz);have HO4:=Zh (show Own w4 (w.heap.size+1) 3 1 R2 (k+1+1) d2 (Qae (Qif dep (st.take (k+1)))) from by rw [Qvd HX.o];exact ho4);clear hown hrd hsz ho4 hg4 x3;go_wp2_with fail
  go_roundw;case rel=>exact ⟨k+1,R2,d2,Oo,by go_num,rfl,HO4.o,HB4.o⟩
  case measure=>simp [intOf];omega
