/- Parts of the proof: Sc, MdO, LsP, RfT, Fx, MdC. -/
import Derived.Test.YthoagdpakddbdaaGreatDoorK1
import Derived.Test.YthoagdpakddbdaaGreatDoorK2
import Derived.Test.YthoagdpakddbdaaGreatDoorK4
import Derived.Test.YthoagdpakddbdaaGreatDoorK5
import Derived.Test.YthoagdpakddbdaaGreatDoorK7
import Derived.Test.YthoagdpakddbdaaGreatDoorK9
import Derived.Test.YthoagdpakddbdaaGreatDoorK20
import Derived.Test.YthoagdpakddbdaaGreatDoorK22
import Derived.Test.YthoagdpakddbdaaGreatDoorK25
import Derived.Test.YthoagdpakddbdaaGreatDoorK26
import Derived.Test.YthoagdpakddbdaaGreatDoorK27
namespace Go.Proofs.YthoagdpakddbdaaGreatDoor
open Go.RowKit Go.Proofs.Tryz
attribute [local go_sem ↓] Go.wp_at_zero Go.wp_at_succ
end Go.Proofs.YthoagdpakddbdaaGreatDoor
namespace Go.Proofs.YthoagdpakddbdaaGreatDoor
open Go.RowKit Go.Extern.Stop Go.Stop Go.Extern Go.Proofs.Tryz
attribute [local go_sem ↓] Go.wp_at_zero Go.wp_at_succ
theorem GO.step {W W':World}{F G F':Nat→Prop}{g o B:Nat}{N M:Qaj} {ls:List (List Int)} (h:GO W F G g o N ls) (hk:Kin N M) (hg:GrO W' F' g M) (hF:∀ b,F' b→(F b∨W.heap.size≤b)∧b<B) (hK:Qaz (fun b=>¬F b) W W') (hz:W.heap.size≤W'.heap.size):GO W' F' G g o M ls :=
 ⟨hg,(h.ov.le (hK.mono (fun b hb=>h.dis b hb)).msk).alike hk.al,fun b hb hf=>by
  have h1:=h.lt b hb
  rcases (hF b hf).1 with h2|h2
  · exact h.dis b hb h2
  · omega,fun b hb=>Nat.lt_of_lt_of_le (h.lt b hb) hz⟩
theorem Blk.msk_ {w:World}{G:Nat→Prop}{g:Nat}{t:TypeId}{cs:Array Value}(h:Blk w g t cs)(hG:G g):Blk (msk w G) g t cs:=(Qno hG).trans h
theorem Blk.rdCh1 {w:World}{g:Nat}{c:Chn} (h:Blk w g 83 #[.int .i64 c.1,.int .i64 c.2.1,.int .i64 c.2.2.1,.int .i64 c.2.2.2.1,.int .i64 c.2.2.2.2]):Qiu w (some ⟨g,0,none⟩) 1 [c] :=
 ⟨rfl,fun i x hx=>by
  match i,hx with
  | 0,hx =>
   cases hx
   obtain ⟨h0,h1,h2,h3,h4⟩:=h.chn;exact ⟨g,0,rfl,by simpa using h0,by simpa using h1,by simpa using h2,by simpa using h3,by simpa using h4⟩
  | i+1,hx=>simp at hx⟩
theorem k_how:Qsv (tb Qid (Qcz Qbh Qid ch30))=2:=by decide
theorem k_dif:tb Qid (difI Qbh.ar Qid [11,2] [31,2])=[[true,false],[false]]:=by decide
theorem k_sum9:Qbo (gatesOf Qbh.ar Qid)≤1000000000:=by rw [Qoa];decide
set_option maxRecDepth 20000 in
set_option maxHeartbeats 4000000 in
theorem Qsj (w:World)(hg:w.cell? ⟨0,0,none⟩=some Qmm):Calls prog 8 #[] w fun e w'=>e=.returned (.bool true)∧Below w.heap.size w w':=by
 have HG:=Zh hg;have hg0:=Qag hg;simp only at hg0;clear hg
 go_enter func8,ntmps8
 go_wp2_with fail
 with_reducible refine (ring_any w).mono ?_
 rintro e w1 ⟨A,B,C,rfl,hN,hb1⟩;have HN1:=Zh hN;have HB1:=Zh hb1;clear hN hb1
 go_wp2_with fail
 (refine Qah ?_;intro w2 hw2)
 have hb2:Below w1.heap.size w1 w2:=by rw [hw2];exact Qae
 have hX2:Blk w2 w1.heap.size 26 #[.slice A 3 3,.slice B 4 4,.slice C 3 3]:=by rw [hw2];exact Blk.new _ _ _
 have HN2:=Zh (HN1.out.below hb2);have HB2:=Zh (Zb HB1.out hb2);clear hw2 hb2 HN1 HB1;have HSX:=Zh (show ∀ V,Blk V w1.heap.size 26 #[.slice A 3 3,.slice B 4 4,.slice C 3 3]→V.cell? ⟨w1.heap.size,0,none⟩=some (.slice A 3 3)∧V.cell? ⟨w1.heap.size,1,none⟩=some (.slice B 4 4)∧V.cell? ⟨w1.heap.size,2,none⟩=some (.slice C 3 3) from fun V hV=>⟨Zq hV,Zq hV,Zq hV⟩)
 refine wp_region_held_drew (S:=fun V=>Blk V w1.heap.size 26 #[.slice A 3 3,.slice B 4 4,.slice C 3 3]) (by kernel_rfl) hX2.drew (fun _=>?_);refine tz 0 13 ?_;refine tz 2 15 ?_;refine Zk 1 (fun K hK=>?_);go_simp;with_reducible refine (Qlm A B C 3 4 3 3 4 3 Qbh w2.drew (HN2.out.below (Zr _ _).drew) Qrl).mono ?_
 rintro e w3 ⟨g,rfl,hG,hb3⟩;have hb23:Below w2.heap.size w2 w3:=(Zr _ _).drew.trans hb3;have hX3:=hX2.below hb23 hX2.lt;have HN3:=Zh (HN2.out.below hb23);have HB3:=Zh (Zb HB2.out hb23);have HG3:=Zh hG;have hz2:=HB2.out.size;clear hG hb3 hb23 hX2 HN2;go_simp;refine hK.out _ _ hX3 (fun _=>?_);clear hK K;refine Zk 3 (fun K hK=>?_);go_simp;with_reducible refine (two_any w3).mono ?_
 rintro e w4 ⟨Q,rfl,hT,hb4⟩;have hX4:=hX3.below hb4 hX3.lt;have HT4:=Zh hT;have HN4:=Zh (HN3.out.below hb4);have HG4:=Zh (HG3.out.below hb4);have HB4:=Zh (Zb HB3.out hb4);have hz34:=hb4.size;clear hb4 hT HN3 HG3 HB3;go_simp;refine hK.out _ _ hX4 (fun _=>?_);clear hK K;refine Zk 4 (fun K hK=>?_);go_simp;with_reducible refine (Qni A B C Q 3 4 3 3 4 3 2 2 Qbh Qid w4 HN4.out Qrl HT4.out k_part).mono ?_
 rintro e w5 ⟨o,rfl,hO,hb5⟩;have hX5:=hX4.below hb5 hX4.lt;obtain ⟨F,G,hGO,hFL⟩:∃ F G,GO w5 F G g o Qbh Qid∧∀ b,F b→w.heap.size≤b:=⟨_,_,⟨HG4.out.below hb5,hO,fun b h1 h2=>by omega,fun b h=>h.2⟩,fun b h=>Nat.le_trans hz2 h.1⟩;have HGO:=Zh hGO;have HFL:=Zh hFL;have HB5:=Zh (Zb HB4.out hb5);clear hb5 hO HN4 HG4 HB4 HT4 hGO hFL hz34 hz2 HB2;go_simp;refine hK.out _ _ hX5 (fun _=>?_);clear hK K;refine tz 5 2 ?_;refine tz 6 3 ?_;refine Zd ?_;clear HSX hX3 hX4 hX5
 go_wp2_with fail
 (refine Qac ?_;intro w6 hw6)
 have hb6:Below w5.heap.size w5 w6:=by rw [hw6];exact Qae
 have hA6:Blk w6 w5.heap.size 2 (Qad [11,2]).toArray:=by rw [hw6];exact Blk.alloc (Blk.new _ _ _) _
 have hC6:Blk w6 (w5.heap.size+1) 83 #[.int .i64 1,.int .i64 0,.int .i64 0,.int .i64 0,.int .i64 30]:=by rw [hw6];exact Blk.new' _ _ _ (by simp)
 clear hw6;have HGO6:=Zh (HGO.out.below hb6);have HB6:=Zh (Zb HB5.out hb6);have hF5:∀ b,w5.heap.size≤b→¬F b:=fun b hb hf=>by have:=HGO.out.gr.lt hf;omega
 have HD:=do_ok w6 g o F Qbh Qid (some ⟨w5.heap.size+1,0,none⟩) (some ⟨w5.heap.size,0,none⟩) 1 1 2 ch30 [11,2] HGO6.out.gr HGO6.out.ovF k_part k_sum9 (by rw [Qoa];exact (hA6.msk_ (hF5 _ (Zn _))).rdI rfl) k_all ((hC6.msk_ (hF5 _ (Nat.le_succ _))).rdCh1 (c:=(1,0,0,0,30))) Qwc (by decide);rw [Qoa] at HD;clear hb6 hA6 hC6 HGO HB5;with_reducible refine HD.mono ?_
 clear HD;unfold DoP;rintro r w7 ⟨Bc,cl,F',rfl,hz,hBc,hall,hF',hG',hKp,hsz,hBel⟩;obtain rfl:=hall.uniq m_all;rw [k_how,Qoa];have HGO7:=Zh (HGO6.out.step Qej hG' hF' hKp hsz);have HB7:=Zh (HB6.out.trans (hBel w.heap.size HB6.out.size HFL.out));have HC7:=Zh hBc;clear hz hBc hall hF' hG' hKp hsz hBel HGO6 HB6
 go_wp2_with fail
 (refine Qac ?_;intro w8 hw8)
 have hb8:Below w7.heap.size w7 w8:=by rw [hw8];exact Qae
 have hA8:Blk w8 w7.heap.size 2 (Qad [11,2]).toArray:=by rw [hw8];exact Blk.new _ _ _
 clear hw8;have HGO8:=Zh (HGO7.out.below hb8);have HB8:=Zh (Zb HB7.out hb8);have HC8:=Zh (HC7.out.below hb8 HC7.out.lt);have HD:=diff_ok w8 o Qbh.ar Qid (some ⟨w7.heap.size,0,none⟩) (some ⟨Bc,0,none⟩) 2 2 2 [11,2] [31,2] (HGO8.out.ovR.alike Qej.symm.al) (hA8.rdI rfl) (HC8.out.rdI rfl) Qoa.symm (by omega) (by decide) (by decide) (by decide);rw [k_dif,show Qid.length=2 from rfl] at HD
 clear hb8 hA8 HGO7 HB7 HC7;with_reducible refine HD.mono ?_
 clear HD;unfold TlP;rintro r w9 ⟨TT,cs,bs,rfl,hTT,hb9⟩;have HGO9:=Zh (HGO8.out.below hb9);have HB9:=Zh (Zb HB8.out hb9);have HC9:=Zh (HC8.out.below hb9 HC8.out.lt);have HT9:=Zh (show RdQ w9 (some ⟨TT,0,none⟩) 2 [[true,false],[false]] from hTT.rdQ (by decide))
 clear hb9 hTT HGO8 HB8 HC8
 go_wp2_with fail
 with_reducible refine (do_size w9 g o Qdi.ar Qid none none 0 0 0 0 HGO9.out.ovR (by rw [Qej.al.gatesOf,Qoa];omega)).mono ?_
 rintro r wa ⟨va,rfl,hch,hba⟩;obtain ⟨tv,xv,rfl⟩:=Qco hch;have HCH:=Zh hch;have HGOa:=Zh (HGO9.out.below hba);have HBa:=Zh (Zb HB9.out hba);have HCa:=Zh (HC9.out.below hba HC9.out.lt);have HTa:=Zh (HT9.out.below hba);clear hch hba HGO9 HB9 HC9 HT9
 go_wp2_with fail
 (refine Qac ?_;intro wb hwb)
 have hbb:Below wa.heap.size wa wb:=by rw [hwb];exact Qae
 have hAb:Blk wb wa.heap.size 2 (Qad [31,2]).toArray:=by rw [hwb];exact Blk.new _ _ _
 clear hwb;with_reducible refine (Qeq (some ⟨Bc,0,none⟩) (some ⟨wa.heap.size,0,none⟩) 2 2 2 2 [31,2] [31,2] wb ((HCa.out.below hbb HCa.out.lt).rdI rfl) (hAb.rdI rfl) (by omega) (by omega)).mono ?_
 rintro e wc ⟨rfl,kc,hwc⟩;rw [show decide ((([31,2]:List Int))=[31,2])=true from rfl]
 have hbc:Below wa.heap.size wa wc:=by rw [hwc];exact Qap hbb kc
 have HCHc:=Zh (HCH.out.below hbc);have HGOc:=Zh (HGOa.out.below hbc);have HBc:=Zh (Zb HBa.out hbc);have HTc:=Zh (HTa.out.below hbc);clear hwc hbb hbc hAb HCH HGOa HBa HCa HTa
 go_wp2_with fail
 (refine Qac ?_;intro wd hwd)
 have hbd:Below wc.heap.size wc wd:=by rw [hwd];exact Qae
 have hQd:RdQ wd (some ⟨wc.heap.size+1+1,0,none⟩) 2 [[true,false],[false]]:=by
  have b0:Blk wd wc.heap.size 4 (Qdh [true,false]):=by rw [hwd];exact Blk.alloc (Blk.alloc (Blk.new wc 4 (Qdh [true,false])) _) _
  have b1:Blk wd (wc.heap.size+1) 4 (Qdh [false]):=by rw [hwd];exact Blk.alloc (Blk.new' _ 4 (Qdh [false]) (by simp)) _
  have b2:Blk wd (wc.heap.size+1+1) 80 #[.slice (some ⟨wc.heap.size,0,none⟩) 2 2,.slice (some ⟨wc.heap.size+1,0,none⟩) 1 1]:=by rw [hwd];exact Blk.new' _ _ _ (by simp)
  refine ⟨rfl,fun i l hl=>?_⟩
  match i,hl with
  | 0,hl =>
   cases hl
   exact ⟨wc.heap.size+1+1,0,_,2,2,rfl,Zq b2,b0.rdB rfl,Zn _,by omega⟩
  | 1,hl =>
   cases hl
   exact ⟨wc.heap.size+1+1,0,_,1,1,rfl,Zq b2,b1.rdB rfl,Zn _,by omega⟩
  | k+2,hl=>simp at hl
 clear hwd;with_reducible refine (Qms (some ⟨TT,0,none⟩) (some ⟨wc.heap.size+1+1,0,none⟩) 2 2 2 _ wd (HTc.out.below hbd) hQd (by omega) (by decide)).mono ?_
 rintro e we ⟨rfl,hbe⟩;have hbde:=Zb hbd hbe;have HCHe:=Zh (HCHc.out.below hbde);have HGOe:=Zh (HGOc.out.below hbde);have HBe:=Zh (Zb HBc.out hbde);clear hbd hbe hbde hQd HCHc HGOc HBc HTc
 go_wp2_with fail
 with_reducible refine (Quv (⟨#[109,101,110,100]⟩:ByteArray) 0 1 we).mono ?_
 rintro r wf ⟨_,rfl,⟨A4,n4,m4,rfl,h4,h5⟩,hbf⟩;have HR4:=Zh h4;have HCHf:=Zh (HCHe.out.below hbf);have HGOf:=Zh (HGOe.out.below hbf);have HBf:=Zh (Zb HBe.out hbf);clear h4 hbf HCHe HGOe HBe
 go_wp2_with fail
 with_reducible refine (Qwy (.iface tv xv) A4 n4 m4 [((⟨#[109,101,110,100]⟩:ByteArray),0)] 1 wf HCHf.out HR4.out (by omega) (Zc HBf.out (Zn _) HG.out) (by omega)).mono ?_
 rintro r wh ⟨rfl,hbh⟩;have HGOh:=Zh (HGOf.out.below hbh);have HBh:=Zh (Zb HBf.out hbh);clear hbh HGOf HBf HCHf HR4
 go_wp2_with fail
 have HWG:=show Calls prog 32 #[.pointer (some ⟨g,0,none⟩),.int .i64 0] wh _ from Qeh g 0 Qdi (0,1,30) wh HGOh.out.gr.rd rfl
 with_reducible refine HWG.mono ?_
 rintro r wi ⟨rfl,rfl⟩
 go_wp2_with fail
 go_ret
 exact ⟨rfl,HBh.out⟩
end Go.Proofs.YthoagdpakddbdaaGreatDoor
namespace Go.Proofs.YthoagdpakddbdaaGreatDoor
open Go.RowKit Go.Proofs.Tryz
attribute [local go_sem ↓] Go.wp_at_zero Go.wp_at_succ
theorem Qpi (A B C:Option Addr)(n m k c d e:Nat)(a:Int)(w:World)(h0:0≤a)(h1:a<m) :
 Calls prog 95 #[.agg #[.slice A n c,.slice B m d,.slice C k e],.int .i64 a] w fun r w'=>r=.returned (.bool true)∧Below w.heap.size w w':=by
 go_enter func95,ntmps95
 go_wp2
 go_ret
 exact ⟨Qbb (by first|(simp;done)|(simp;omega)),Qae⟩
theorem RdW.keepB {w w':World}{A:Option Addr}{n:Nat} {l:List (ByteArray×Int)} (h:RdW w A n l) (hk:∀ b,Qab A=some b→w'.heap[b]?=w.heap[b]?):RdW w' A n l :=
 ⟨h.1,fun i x hx=>by
  obtain ⟨b,o,e,h1,h2⟩:=h.2 i x hx;have hb:=hk b (by rw [e];rfl);exact ⟨b,o,e,Qdd hb h1,Qdd hb h2⟩⟩
theorem RdW.setFar {W:World}{A:Option Addr}{n:Nat} {l:List (ByteArray×Int)} (h:RdW W A n l) (g i:Nat) (v:Value) (hne:∀ b,Qab A=some b→b≠g∧b<W.heap.size):RdW (W.setCell ⟨g,i,none⟩ v) A n l :=
 h.keepB (fun b e=>(Qaz.set W g i v (G:=fun b=>b≠g) (fun h=>h rfl)) b (hne b e).1 (hne b e).2)
theorem Qpt (s:ByteArray)(k c:Int)(w:World):Calls prog 14 #[.string s,.int .i64 k,.int .i64 c] w fun e w'=>∃ A n m,e=.returned (.agg #[.slice A n m,.int .i64 c])∧RdW w' A n [(s,k)]∧(∀ b,Qab A=some b→w.heap.size≤b∧b<w'.heap.size)∧n≤1000000∧Below w.heap.size w w':=by
 go_enter func14,ntmps14
 go_wp2
 refine bodyPost_ret (v:=.agg #[.slice (some ⟨w.heap.size+1,0,none⟩) 1 1,.int .i64 c]) (by simp [results,results14,go_sem]) rfl ?_;refine ⟨_,1,1,rfl,⟨rfl,fun i x hx=>?_⟩,fun b e=>?_,by omega,Qae⟩
 · match i,hx with
   | 0,hx=>cases hx;exact ⟨_,_,rfl,by simp,by simp⟩
   | i+1,hx=>simp at hx
 · have e:w.heap.size+1=b:=Option.some.inj e
   subst e;exact ⟨by omega,by simp⟩
theorem Qqb (A B C:Option Addr)(n m k c d e:Nat)(a:Int)(w:World) (h1:¬(0≤a∧a<m)) :
 Calls prog 95 #[.agg #[.slice A n c,.slice B m d,.slice C k e],.int .i64 a] w fun r w'=>r=.returned (.bool false)∧Below w.heap.size w w':=by
 by_cases h0:0≤a
 · have h2:¬a<m:=by omega
   clear h1
   go_enter func95,ntmps95
   go_wp2
   go_ret
   exact ⟨Qbb (by first|(simp;done)|(simp;omega)),Qae⟩
 · clear h1
   go_enter func95,ntmps95
   go_wp2
   go_ret
   exact ⟨Qbb (by first|(simp;done)|(simp;omega)),Qae⟩
set_option maxRecDepth 20000 in
set_option maxHeartbeats 8000000 in
theorem Qsm (A B C:Option Addr)(n m k c d e:Nat)(N:Qaj)(w:World)(x y z u v:Int)(h:Qbm w A B C n m k N) :
 Calls prog 50 #[.agg #[.slice A n c,.slice B m d,.slice C k e],.agg #[.int .i64 x,.int .i64 y,.int .i64 z,.int .i64 u,.int .i64 v]] w fun r w'=>r=.returned (.int .i64 (Qpj N (x,y,z,u,v)))∧Below w.heap.size w w':=by
 obtain ⟨E,hE⟩:∃ E,E=Qpj N (x,y,z,u,v):=⟨_,rfl⟩;rw [←hE];rw [Qvb] at hE;have HH:=Zh h;have hm:N.ar.length=m:=h.2.1.1;have hkk:N.ts.length=k:=h.2.2.1;clear h
 by_cases hx1:x=1
 · rw [if_pos hx1] at hE
   subst hx1
   by_cases hz:z=0
   rotate_left
   · rw [if_pos (.inl hz)] at hE
     subst hE
     go_enter func50,ntmps50
     go_wp2_with fail
     go_ret
     exact ⟨rfl,Qae⟩
   by_cases hu:u=0
   rotate_left
   · rw [if_pos (.inr hu)] at hE
     subst hE;subst hz
     go_enter func50,ntmps50
     go_wp2_with fail
     go_ret
     exact ⟨rfl,Qae⟩
   rw [if_neg (by rintro (h|h);exact h hz;exact h hu)] at hE;subst hz;subst hu
   by_cases hy:0≤y∧y<(m:Int)
   rotate_left
   · rw [if_pos (by rw [hm];exact hy)] at hE
     subst hE;have HS:=Zh (fun V=>Qqb A B C n m k c d e y V hy);clear hy
     go_enter func50,ntmps50
     go_wp2_with fail
     (refine Qac ?_;intro w1 hw1)
     have hb1:Below w.heap.size w w1:=by rw [hw1];exact Qae
     clear hw1;with_reducible refine (HS.out w1).mono ?_
     rintro r w2 ⟨rfl,hb2⟩;have HB2:=Zh (Zb hb1 hb2)
     go_wp2_with fail
     go_ret
     exact ⟨rfl,HB2.out⟩
   rw [if_neg (by rw [hm];exact fun h=>h hy)] at hE;have HS:=Zh (fun V=>Qpi A B C n m k c d e y V hy.1 hy.2);clear hy
   go_enter func50,ntmps50
   go_wp2_with fail
   (refine Qac ?_;intro w1 hw1)
   have hb1:Below w.heap.size w w1:=by rw [hw1];exact Qae
   have hY:Blk w1 (w.heap.size+1) 71 #[.int .i64 1,.int .i64 y,.int .i64 0,.int .i64 0,.int .i64 v]:=by rw [hw1];exact Qau
   clear hw1;with_reducible refine (HS.out w1).mono ?_
   rintro r w2 ⟨rfl,hb2⟩;have hY2:=hY.below hb2 hY.lt;have x4:w2.cell? ⟨w.heap.size+1,4,none⟩=some (.int .i64 v):=Zq hY2;have xl:=hY2.lt;have HB2:=Zh (Zb hb1 hb2);have HWT:=Zh (Qcn v w2);clear hY hb1 hb2 hY2
   cases hw:wOk v with
   | true =>
    rw [hw,if_pos rfl] at hE;subst hE
    go_wp2_with fail
    with_reducible refine HWT.out.mono ?_
    rintro r w' ⟨rfl,rfl⟩;rw [hw]
    go_wp2_with fail
    go_ret
    exact ⟨rfl,HB2.out⟩
   | false =>
    rw [hw,if_neg (by simp)] at hE;subst hE
    go_wp2_with fail
    with_reducible refine HWT.out.mono ?_
    rintro r w' ⟨rfl,rfl⟩;rw [hw]
    go_wp2_with fail
    go_ret
    exact ⟨rfl,HB2.out⟩
 rw [if_neg hx1] at hE
 by_cases hx2:x=2
 rotate_left
 · rw [if_neg hx2] at hE
   subst hE;have e1:(x != 1)=true:=by simpa using hx1
   have e2:(x != 2)=true:=by simpa using hx2
   have e3:(x == 1)=false:=by simpa using hx1
   have e4:(x == 2)=false:=by simpa using hx2
   clear hx1 hx2
   go_enter func50,ntmps50
   go_wp2_with fail
   go_ret
   exact ⟨rfl,Qae⟩
 rw [if_pos hx2] at hE;subst hx2;clear hx1
 by_cases hy0:y<0
 · rw [if_pos (by rintro ⟨g0,_⟩;simp only at g0;omega)] at hE
   subst hE
   go_enter func50,ntmps50
   go_wp2_with fail
   (refine Qah ?_;intro w1 hw1)
   have hb1:Below w.heap.size w w1:=by rw [hw1];exact Qae
   have hX:Blk w1 w.heap.size 26 #[.slice A n c,.slice B m d,.slice C k e]:=by rw [hw1];exact Qau
   have hY:Blk w1 (w.heap.size+1) 71 #[.int .i64 2,.int .i64 y,.int .i64 z,.int .i64 u,.int .i64 v]:=by rw [hw1];exact Qau
   clear hw1;have HSX:=Zh (show ∀ V,Below w1.heap.size w1 V→V.cell? ⟨w.heap.size,2,none⟩=some (.slice C k e)∧V.cell? ⟨w.heap.size+1,1,none⟩=some (.int .i64 y)∧V.cell? ⟨w.heap.size+1,2,none⟩=some (.int .i64 z)∧V.cell? ⟨w.heap.size+1,3,none⟩=some (.int .i64 u)∧decide (y<0)=true from fun V hV=>⟨by rw [(hX.below hV hX.lt).cell];rfl,by rw [(hY.below hV hY.lt).cell];rfl,by rw [(hY.below hV hY.lt).cell];rfl,by rw [(hY.below hV hY.lt).cell];rfl,decide_eq_true (by omega)⟩)
   refine wp_region_held_drew (S:=fun V=>Below w1.heap.size w1 V) (by kernel_rfl) (Zr _ _).drew (fun _=>?_);refine tz 0 24 ?_;refine tz 1 25 ?_;refine tz 2 26 ?_;refine tz 3 27 ?_;refine tw 4 28 ?_;refine tw 5 29 ?_;refine tw 6 30 ?_;refine tw 7 31 ?_;refine tw 8 32 ?_;refine tw 9 33 ?_;refine tz 10 34 ?_;refine tz 11 35 ?_;refine tw 12 36 ?_;refine tw 13 37 ?_;refine tw 14 38 ?_;refine tz 15 39 ?_;refine tz 16 40 ?_;refine tw 17 41 ?_;refine tw 18 42 ?_;refine tw 19 43 ?_;refine tw 20 44 ?_;refine tw 21 45 ?_;refine tw 22 46 ?_;refine tw 23 47 ?_;refine tw 24 48 ?_;refine tw 25 49 ?_;refine tw 26 50 ?_;refine tz 27 51 ?_;refine tz 28 52 ?_;refine tw 29 53 ?_;refine tw 30 54 ?_;refine tw 31 55 ?_;refine tz 32 56 ?_;refine tz 33 57 ?_;refine tw 34 58 ?_;refine tw 35 59 ?_;refine tw 36 60 ?_;refine tw 37 61 ?_;refine tw 38 62 ?_;refine tw 39 63 ?_;refine tw 40 64 ?_;refine tw 41 65 ?_;refine tw 42 66 ?_;refine tw 43 67 ?_;refine tz 44 68 ?_;refine Zd ?_;clear HSX
   go_wp2_with fail
   go_ret
   exact ⟨rfl,Zb hb1 Qae⟩
 obtain ⟨p,rfl⟩:∃ p:Nat,y=p:=⟨y.toNat,by omega⟩;clear hy0
 by_cases hp:p<k
 rotate_left
 · have ht:N.ts[p]?=none:=List.getElem?_eq_none (by omega)
   rw [if_pos (by rintro ⟨_,t0,g1,_⟩;simp only [Int.toNat_natCast] at g1;rw [ht] at g1;cases g1)] at hE
   subst hE;clear ht
   go_enter func50,ntmps50
   go_wp2_with fail
   (refine Qah ?_;intro w1 hw1)
   have hb1:Below w.heap.size w w1:=by rw [hw1];exact Qae
   have hX:Blk w1 w.heap.size 26 #[.slice A n c,.slice B m d,.slice C k e]:=by rw [hw1];exact Qau
   have hY:Blk w1 (w.heap.size+1) 71 #[.int .i64 2,.int .i64 p,.int .i64 z,.int .i64 u,.int .i64 v]:=by rw [hw1];exact Qau
   clear hw1;have HSX:=Zh (show ∀ V,Below w1.heap.size w1 V→V.cell? ⟨w.heap.size,2,none⟩=some (.slice C k e)∧V.cell? ⟨w.heap.size+1,1,none⟩=some (.int .i64 p)∧V.cell? ⟨w.heap.size+1,2,none⟩=some (.int .i64 z)∧V.cell? ⟨w.heap.size+1,3,none⟩=some (.int .i64 u)∧decide ((p:Int)<0)=false∧decide ((k:Int)≤(p:Int))=true∧decide (k≤p)=true from fun V hV=>⟨by rw [(hX.below hV hX.lt).cell];rfl,by rw [(hY.below hV hY.lt).cell];rfl,by rw [(hY.below hV hY.lt).cell];rfl,by rw [(hY.below hV hY.lt).cell];rfl,decide_eq_false (by omega),decide_eq_true (by omega),decide_eq_true (by omega)⟩)
   refine wp_region_held_drew (S:=fun V=>Below w1.heap.size w1 V) (by kernel_rfl) (Zr _ _).drew (fun _=>?_);refine tz 0 24 ?_;refine tz 1 25 ?_;refine tz 2 26 ?_;refine tz 3 27 ?_;refine tz 4 28 ?_;refine tz 5 29 ?_;refine tz 6 30 ?_;refine tz 7 31 ?_;refine tz 8 32 ?_;refine tz 9 33 ?_;refine tz 10 34 ?_;refine tz 11 35 ?_;refine tw 12 36 ?_;refine tw 13 37 ?_;refine tw 14 38 ?_;refine tz 15 39 ?_;refine tz 16 40 ?_;refine tw 17 41 ?_;refine tw 18 42 ?_;refine tw 19 43 ?_;refine tw 20 44 ?_;refine tw 21 45 ?_;refine tw 22 46 ?_;refine tw 23 47 ?_;refine tw 24 48 ?_;refine tw 25 49 ?_;refine tw 26 50 ?_;refine tz 27 51 ?_;refine tz 28 52 ?_;refine tw 29 53 ?_;refine tw 30 54 ?_;refine tw 31 55 ?_;refine tz 32 56 ?_;refine tz 33 57 ?_;refine tw 34 58 ?_;refine tw 35 59 ?_;refine tw 36 60 ?_;refine tw 37 61 ?_;refine tw 38 62 ?_;refine tw 39 63 ?_;refine tw 40 64 ?_;refine tw 41 65 ?_;refine tw 42 66 ?_;refine tw 43 67 ?_;refine tz 44 68 ?_;refine Zd ?_;clear HSX
   go_wp2_with fail
   go_ret
   exact ⟨rfl,Zb hb1 Qae⟩
 obtain ⟨t,ht⟩:∃ t,N.ts[p]?=some t:=⟨_,Zg (by omega)⟩;have HTT:=Zh ht
 have hE2:E=if ¬(0≤z∧z<t.ins∧0≤u∧u<t.outs) then 5 else if wOk v=true then 0 else 8:=by
  rw [hE]
  by_cases hb:Qml N (2,(p:Int),z,u,v)
  · obtain ⟨_,t0,g1,g2,g3,g4,g5⟩:=id hb
    simp only [Int.toNat_natCast] at g1 g2 g3 g4 g5;rw [ht] at g1
    cases g1
    rw [if_neg (not_not_intro hb),if_neg (not_not_intro ⟨g2,g3,g4,g5⟩)]
  · rw [if_pos hb,if_pos (fun g=>hb ⟨by simp only;omega,t,by simpa using ht,g.1,g.2.1,g.2.2.1,g.2.2.2⟩)]
 clear hE ht;have hE:=hE2;clear hE2
 by_cases hz0:z<0
 · rw [if_pos (by omega)] at hE
   subst hE
   go_enter func50,ntmps50
   go_wp2_with fail
   (refine Qah ?_;intro w1 hw1)
   have hb1:Below w.heap.size w w1:=by rw [hw1];exact Qae
   have hX:Blk w1 w.heap.size 26 #[.slice A n c,.slice B m d,.slice C k e]:=by rw [hw1];exact Qau
   have hY:Blk w1 (w.heap.size+1) 71 #[.int .i64 2,.int .i64 p,.int .i64 z,.int .i64 u,.int .i64 v]:=by rw [hw1];exact Qau
   clear hw1;obtain ⟨tb,to_,eC,d0,d1,A2,n2,c2,d2,hr2,hcap2⟩:=((HH.out.below hb1).2.2).2 p _ HTT.out;subst eC
   try simp only at d0 d1
   clear d2 hr2 hcap2;have HSX:=Zh (show ∀ V,Below w1.heap.size w1 V→V.cell? ⟨w.heap.size,2,none⟩=some (.slice (some ⟨tb,to_,none⟩) k e)∧V.cell? ⟨w.heap.size+1,1,none⟩=some (.int .i64 p)∧V.cell? ⟨w.heap.size+1,2,none⟩=some (.int .i64 z)∧V.cell? ⟨w.heap.size+1,3,none⟩=some (.int .i64 u)∧V.cell? ⟨tb,to_+p*3,none⟩=some (.int .i64 t.ins)∧V.cell? ⟨tb,to_+p*3+1,none⟩=some (.int .i64 t.outs)∧decide ((p:Int)<0)=false∧decide ((k:Int)≤(p:Int))=false∧decide (k≤p)=false∧decide (z<0)=true from fun V hV=>⟨by rw [(hX.below hV hX.lt).cell];rfl,by rw [(hY.below hV hY.lt).cell];rfl,by rw [(hY.below hV hY.lt).cell];rfl,by rw [(hY.below hV hY.lt).cell];rfl,Zc hV (Zn _) d0,Zc hV (Zn _) d1,decide_eq_false (by omega),decide_eq_false (by omega),decide_eq_false (by omega),decide_eq_true (by omega)⟩)
   refine wp_region_held_drew (S:=fun V=>Below w1.heap.size w1 V) (by kernel_rfl) (Zr _ _).drew (fun _=>?_);refine tz 0 24 ?_;refine tz 1 25 ?_;refine tz 2 26 ?_;refine tz 3 27 ?_;refine tz 4 28 ?_;refine tz 5 29 ?_;refine tz 6 30 ?_;refine tz 7 31 ?_;refine tz 8 32 ?_;refine tz 9 33 ?_;refine tz 10 34 ?_;refine tz 11 35 ?_;refine tz 12 36 ?_;refine tz 13 37 ?_;refine tz 14 38 ?_;refine tz 15 39 ?_;refine tz 16 40 ?_;refine tw 17 41 ?_;refine tw 18 42 ?_;refine tw 19 43 ?_;refine tw 20 44 ?_;refine tw 21 45 ?_;refine tw 22 46 ?_;refine tw 23 47 ?_;refine tw 24 48 ?_;refine tw 25 49 ?_;refine tw 26 50 ?_;refine tz 27 51 ?_;refine tz 28 52 ?_;refine tw 29 53 ?_;refine tw 30 54 ?_;refine tw 31 55 ?_;refine tz 32 56 ?_;refine tz 33 57 ?_;refine tw 34 58 ?_;refine tw 35 59 ?_;refine tw 36 60 ?_;refine tw 37 61 ?_;refine tw 38 62 ?_;refine tw 39 63 ?_;refine tw 40 64 ?_;refine tw 41 65 ?_;refine tw 42 66 ?_;refine tw 43 67 ?_;refine tz 44 68 ?_;refine Zd ?_;clear HSX
   go_wp2_with fail
   go_ret
   exact ⟨rfl,Zb hb1 Qae⟩
 by_cases hzi:t.ins≤z
 · rw [if_pos (by omega)] at hE
   subst hE
   go_enter func50,ntmps50
   go_wp2_with fail
   (refine Qah ?_;intro w1 hw1)
   have hb1:Below w.heap.size w w1:=by rw [hw1];exact Qae
   have hX:Blk w1 w.heap.size 26 #[.slice A n c,.slice B m d,.slice C k e]:=by rw [hw1];exact Qau
   have hY:Blk w1 (w.heap.size+1) 71 #[.int .i64 2,.int .i64 p,.int .i64 z,.int .i64 u,.int .i64 v]:=by rw [hw1];exact Qau
   clear hw1;obtain ⟨tb,to_,eC,d0,d1,A2,n2,c2,d2,hr2,hcap2⟩:=((HH.out.below hb1).2.2).2 p _ HTT.out;subst eC
   try simp only at d0 d1
   clear d2 hr2 hcap2;have HSX:=Zh (show ∀ V,Below w1.heap.size w1 V→V.cell? ⟨w.heap.size,2,none⟩=some (.slice (some ⟨tb,to_,none⟩) k e)∧V.cell? ⟨w.heap.size+1,1,none⟩=some (.int .i64 p)∧V.cell? ⟨w.heap.size+1,2,none⟩=some (.int .i64 z)∧V.cell? ⟨w.heap.size+1,3,none⟩=some (.int .i64 u)∧V.cell? ⟨tb,to_+p*3,none⟩=some (.int .i64 t.ins)∧V.cell? ⟨tb,to_+p*3+1,none⟩=some (.int .i64 t.outs)∧decide ((p:Int)<0)=false∧decide ((k:Int)≤(p:Int))=false∧decide (k≤p)=false∧decide (z<0)=false∧decide (t.ins≤z)=true from fun V hV=>⟨by rw [(hX.below hV hX.lt).cell];rfl,by rw [(hY.below hV hY.lt).cell];rfl,by rw [(hY.below hV hY.lt).cell];rfl,by rw [(hY.below hV hY.lt).cell];rfl,Zc hV (Zn _) d0,Zc hV (Zn _) d1,decide_eq_false (by omega),decide_eq_false (by omega),decide_eq_false (by omega),decide_eq_false (by omega),decide_eq_true (by omega)⟩)
   refine wp_region_held_drew (S:=fun V=>Below w1.heap.size w1 V) (by kernel_rfl) (Zr _ _).drew (fun _=>?_);refine tz 0 24 ?_;refine tz 1 25 ?_;refine tz 2 26 ?_;refine tz 3 27 ?_;refine tz 4 28 ?_;refine tz 5 29 ?_;refine tz 6 30 ?_;refine tz 7 31 ?_;refine tz 8 32 ?_;refine tz 9 33 ?_;refine tz 10 34 ?_;refine tz 11 35 ?_;refine tz 12 36 ?_;refine tz 13 37 ?_;refine tz 14 38 ?_;refine tz 15 39 ?_;refine tz 16 40 ?_;refine tz 17 41 ?_;refine tz 18 42 ?_;refine tz 19 43 ?_;refine tz 20 44 ?_;refine tz 21 45 ?_;refine tz 22 46 ?_;refine tz 23 47 ?_;refine tz 24 48 ?_;refine tz 25 49 ?_;refine tz 26 50 ?_;refine tz 27 51 ?_;refine tz 28 52 ?_;refine tw 29 53 ?_;refine tw 30 54 ?_;refine tw 31 55 ?_;refine tz 32 56 ?_;refine tz 33 57 ?_;refine tw 34 58 ?_;refine tw 35 59 ?_;refine tw 36 60 ?_;refine tw 37 61 ?_;refine tw 38 62 ?_;refine tw 39 63 ?_;refine tw 40 64 ?_;refine tw 41 65 ?_;refine tw 42 66 ?_;refine tw 43 67 ?_;refine tz 44 68 ?_;refine Zd ?_;clear HSX
   go_wp2_with fail
   go_ret
   exact ⟨rfl,Zb hb1 Qae⟩
 by_cases hu0:u<0
 · rw [if_pos (by omega)] at hE
   subst hE
   go_enter func50,ntmps50
   go_wp2_with fail
   (refine Qah ?_;intro w1 hw1)
   have hb1:Below w.heap.size w w1:=by rw [hw1];exact Qae
   have hX:Blk w1 w.heap.size 26 #[.slice A n c,.slice B m d,.slice C k e]:=by rw [hw1];exact Qau
   have hY:Blk w1 (w.heap.size+1) 71 #[.int .i64 2,.int .i64 p,.int .i64 z,.int .i64 u,.int .i64 v]:=by rw [hw1];exact Qau
   clear hw1;obtain ⟨tb,to_,eC,d0,d1,A2,n2,c2,d2,hr2,hcap2⟩:=((HH.out.below hb1).2.2).2 p _ HTT.out;subst eC
   try simp only at d0 d1
   clear d2 hr2 hcap2;have HSX:=Zh (show ∀ V,Below w1.heap.size w1 V→V.cell? ⟨w.heap.size,2,none⟩=some (.slice (some ⟨tb,to_,none⟩) k e)∧V.cell? ⟨w.heap.size+1,1,none⟩=some (.int .i64 p)∧V.cell? ⟨w.heap.size+1,2,none⟩=some (.int .i64 z)∧V.cell? ⟨w.heap.size+1,3,none⟩=some (.int .i64 u)∧V.cell? ⟨tb,to_+p*3,none⟩=some (.int .i64 t.ins)∧V.cell? ⟨tb,to_+p*3+1,none⟩=some (.int .i64 t.outs)∧decide ((p:Int)<0)=false∧decide ((k:Int)≤(p:Int))=false∧decide (k≤p)=false∧decide (z<0)=false∧decide (t.ins≤z)=false∧decide (u<0)=true from fun V hV=>⟨by rw [(hX.below hV hX.lt).cell];rfl,by rw [(hY.below hV hY.lt).cell];rfl,by rw [(hY.below hV hY.lt).cell];rfl,by rw [(hY.below hV hY.lt).cell];rfl,Zc hV (Zn _) d0,Zc hV (Zn _) d1,decide_eq_false (by omega),decide_eq_false (by omega),decide_eq_false (by omega),decide_eq_false (by omega),decide_eq_false (by omega),decide_eq_true (by omega)⟩)
   refine wp_region_held_drew (S:=fun V=>Below w1.heap.size w1 V) (by kernel_rfl) (Zr _ _).drew (fun _=>?_);refine tz 0 24 ?_;refine tz 1 25 ?_;refine tz 2 26 ?_;refine tz 3 27 ?_;refine tz 4 28 ?_;refine tz 5 29 ?_;refine tz 6 30 ?_;refine tz 7 31 ?_;refine tz 8 32 ?_;refine tz 9 33 ?_;refine tz 10 34 ?_;refine tz 11 35 ?_;refine tz 12 36 ?_;refine tz 13 37 ?_;refine tz 14 38 ?_;refine tz 15 39 ?_;refine tz 16 40 ?_;refine tz 17 41 ?_;refine tz 18 42 ?_;refine tz 19 43 ?_;refine tz 20 44 ?_;refine tz 21 45 ?_;refine tz 22 46 ?_;refine tz 23 47 ?_;refine tz 24 48 ?_;refine tz 25 49 ?_;refine tz 26 50 ?_;refine tz 27 51 ?_;refine tz 28 52 ?_;refine tz 29 53 ?_;refine tz 30 54 ?_;refine tz 31 55 ?_;refine tz 32 56 ?_;refine tz 33 57 ?_;refine tw 34 58 ?_;refine tw 35 59 ?_;refine tw 36 60 ?_;refine tw 37 61 ?_;refine tw 38 62 ?_;refine tw 39 63 ?_;refine tw 40 64 ?_;refine tw 41 65 ?_;refine tw 42 66 ?_;refine tw 43 67 ?_;refine tz 44 68 ?_;refine Zd ?_;clear HSX
   go_wp2_with fail
   go_ret
   exact ⟨rfl,Zb hb1 Qae⟩
 by_cases huo:t.outs≤u
 · rw [if_pos (by omega)] at hE
   subst hE
   go_enter func50,ntmps50
   go_wp2_with fail
   (refine Qah ?_;intro w1 hw1)
   have hb1:Below w.heap.size w w1:=by rw [hw1];exact Qae
   have hX:Blk w1 w.heap.size 26 #[.slice A n c,.slice B m d,.slice C k e]:=by rw [hw1];exact Qau
   have hY:Blk w1 (w.heap.size+1) 71 #[.int .i64 2,.int .i64 p,.int .i64 z,.int .i64 u,.int .i64 v]:=by rw [hw1];exact Qau
   clear hw1;obtain ⟨tb,to_,eC,d0,d1,A2,n2,c2,d2,hr2,hcap2⟩:=((HH.out.below hb1).2.2).2 p _ HTT.out;subst eC
   try simp only at d0 d1
   clear d2 hr2 hcap2;have HSX:=Zh (show ∀ V,Below w1.heap.size w1 V→V.cell? ⟨w.heap.size,2,none⟩=some (.slice (some ⟨tb,to_,none⟩) k e)∧V.cell? ⟨w.heap.size+1,1,none⟩=some (.int .i64 p)∧V.cell? ⟨w.heap.size+1,2,none⟩=some (.int .i64 z)∧V.cell? ⟨w.heap.size+1,3,none⟩=some (.int .i64 u)∧V.cell? ⟨tb,to_+p*3,none⟩=some (.int .i64 t.ins)∧V.cell? ⟨tb,to_+p*3+1,none⟩=some (.int .i64 t.outs)∧decide ((p:Int)<0)=false∧decide ((k:Int)≤(p:Int))=false∧decide (k≤p)=false∧decide (z<0)=false∧decide (t.ins≤z)=false∧decide (u<0)=false∧decide (t.outs≤u)=true from fun V hV=>⟨by rw [(hX.below hV hX.lt).cell];rfl,by rw [(hY.below hV hY.lt).cell];rfl,by rw [(hY.below hV hY.lt).cell];rfl,by rw [(hY.below hV hY.lt).cell];rfl,Zc hV (Zn _) d0,Zc hV (Zn _) d1,decide_eq_false (by omega),decide_eq_false (by omega),decide_eq_false (by omega),decide_eq_false (by omega),decide_eq_false (by omega),decide_eq_false (by omega),decide_eq_true (by omega)⟩)
   refine wp_region_held_drew (S:=fun V=>Below w1.heap.size w1 V) (by kernel_rfl) (Zr _ _).drew (fun _=>?_);refine tz 0 24 ?_;refine tz 1 25 ?_;refine tz 2 26 ?_;refine tz 3 27 ?_;refine tz 4 28 ?_;refine tz 5 29 ?_;refine tz 6 30 ?_;refine tz 7 31 ?_;refine tz 8 32 ?_;refine tz 9 33 ?_;refine tz 10 34 ?_;refine tz 11 35 ?_;refine tz 12 36 ?_;refine tz 13 37 ?_;refine tz 14 38 ?_;refine tz 15 39 ?_;refine tz 16 40 ?_;refine tz 17 41 ?_;refine tz 18 42 ?_;refine tz 19 43 ?_;refine tz 20 44 ?_;refine tz 21 45 ?_;refine tz 22 46 ?_;refine tz 23 47 ?_;refine tz 24 48 ?_;refine tz 25 49 ?_;refine tz 26 50 ?_;refine tz 27 51 ?_;refine tz 28 52 ?_;refine tz 29 53 ?_;refine tz 30 54 ?_;refine tz 31 55 ?_;refine tz 32 56 ?_;refine tz 33 57 ?_;refine tz 34 58 ?_;refine tz 35 59 ?_;refine tz 36 60 ?_;refine tz 37 61 ?_;refine tz 38 62 ?_;refine tz 39 63 ?_;refine tz 40 64 ?_;refine tz 41 65 ?_;refine tz 42 66 ?_;refine tz 43 67 ?_;refine tz 44 68 ?_;refine Zd ?_;clear HSX
   go_wp2_with fail
   go_ret
   exact ⟨rfl,Zb hb1 Qae⟩
 rw [if_neg (by omega)] at hE
 go_enter func50,ntmps50
 go_wp2_with fail
 (refine Qah ?_;intro w1 hw1)
 have hb1:Below w.heap.size w w1:=by rw [hw1];exact Qae
 have hX:Blk w1 w.heap.size 26 #[.slice A n c,.slice B m d,.slice C k e]:=by rw [hw1];exact Qau
 have hY:Blk w1 (w.heap.size+1) 71 #[.int .i64 2,.int .i64 p,.int .i64 z,.int .i64 u,.int .i64 v]:=by rw [hw1];exact Qau
 clear hw1;obtain ⟨tb,to_,eC,d0,d1,A2,n2,c2,d2,hr2,hcap2⟩:=((HH.out.below hb1).2.2).2 p _ HTT.out;subst eC
 try simp only at d0 d1
 clear d2 hr2 hcap2;have HSX:=Zh (show ∀ V,Below w1.heap.size w1 V→V.cell? ⟨w.heap.size,2,none⟩=some (.slice (some ⟨tb,to_,none⟩) k e)∧V.cell? ⟨w.heap.size+1,1,none⟩=some (.int .i64 p)∧V.cell? ⟨w.heap.size+1,2,none⟩=some (.int .i64 z)∧V.cell? ⟨w.heap.size+1,3,none⟩=some (.int .i64 u)∧V.cell? ⟨tb,to_+p*3,none⟩=some (.int .i64 t.ins)∧V.cell? ⟨tb,to_+p*3+1,none⟩=some (.int .i64 t.outs)∧decide ((p:Int)<0)=false∧decide ((k:Int)≤(p:Int))=false∧decide (k≤p)=false∧decide (z<0)=false∧decide (t.ins≤z)=false∧decide (u<0)=false∧decide (t.outs≤u)=false from fun V hV=>⟨by rw [(hX.below hV hX.lt).cell];rfl,by rw [(hY.below hV hY.lt).cell];rfl,by rw [(hY.below hV hY.lt).cell];rfl,by rw [(hY.below hV hY.lt).cell];rfl,Zc hV (Zn _) d0,Zc hV (Zn _) d1,decide_eq_false (by omega),decide_eq_false (by omega),decide_eq_false (by omega),decide_eq_false (by omega),decide_eq_false (by omega),decide_eq_false (by omega),decide_eq_false (by omega)⟩)
 refine wp_region_held_drew (S:=fun V=>Below w1.heap.size w1 V) (by kernel_rfl) (Zr _ _).drew (fun _=>?_);refine tz 0 24 ?_;refine tz 1 25 ?_;refine tz 2 26 ?_;refine tz 3 27 ?_;refine tz 4 28 ?_;refine tz 5 29 ?_;refine tz 6 30 ?_;refine tz 7 31 ?_;refine tz 8 32 ?_;refine tz 9 33 ?_;refine tz 10 34 ?_;refine tz 11 35 ?_;refine tz 12 36 ?_;refine tz 13 37 ?_;refine tz 14 38 ?_;refine tz 15 39 ?_;refine tz 16 40 ?_;refine tz 17 41 ?_;refine tz 18 42 ?_;refine tz 19 43 ?_;refine tz 20 44 ?_;refine tz 21 45 ?_;refine tz 22 46 ?_;refine tz 23 47 ?_;refine tz 24 48 ?_;refine tz 25 49 ?_;refine tz 26 50 ?_;refine tz 27 51 ?_;refine tz 28 52 ?_;refine tz 29 53 ?_;refine tz 30 54 ?_;refine tz 31 55 ?_;refine tz 32 56 ?_;refine tz 33 57 ?_;refine tz 34 58 ?_;refine tz 35 59 ?_;refine tz 36 60 ?_;refine tz 37 61 ?_;refine tz 38 62 ?_;refine tz 39 63 ?_;refine tz 40 64 ?_;refine tz 41 65 ?_;refine tz 42 66 ?_;refine tz 43 67 ?_;refine tz 44 68 ?_;refine Zd ?_;clear HSX;have x4:w1.cell? ⟨w.heap.size+1,4,none⟩=some (.int .i64 v):=Zq hY;have xl:=hY.lt;have HB2:=Zh (show Below w.heap.size w w1.drew from hb1.drew)
 have HWT:=Zh (Qcn v w1.drew)
 cases hw:wOk v with
 | true =>
  rw [hw,if_pos rfl] at hE;subst hE
  go_wp2_with fail
  with_reducible refine HWT.out.mono ?_
  rintro r w' ⟨rfl,rfl⟩;rw [hw]
  go_wp2_with fail
  go_ret
  exact ⟨rfl,HB2.out⟩
 | false =>
  rw [hw,if_neg (by simp)] at hE;subst hE
  go_wp2_with fail
  with_reducible refine HWT.out.mono ?_
  rintro r w' ⟨rfl,rfl⟩;rw [hw]
  go_wp2_with fail
  go_ret
  exact ⟨rfl,HB2.out⟩
end Go.Proofs.YthoagdpakddbdaaGreatDoor
