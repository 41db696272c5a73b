/- Parts of the proof: MdO, LsP, RfT, Fx. -/
import Derived.Test.YthoagdpakddbdaaGreatDoorD1
import Derived.Test.YthoagdpakddbdaaGreatDoorD4
import Derived.Test.YthoagdpakddbdaaGreatDoorD7
import Derived.Test.YthoagdpakddbdaaGreatDoorD10
import Derived.Test.YthoagdpakddbdaaGreatDoorD26
import Derived.Test.YthoagdpakddbdaaGreatDoorD30
import Derived.Test.YthoagdpakddbdaaGreatDoorD34
import Derived.Test.YthoagdpakddbdaaGreatDoorD36
namespace Go.Proofs.YthoagdpakddbdaaGreatDoor
open Go.RowKit Go.Extern.Stop Go.Stop Go.Extern Go.Proofs.Tryz
attribute [local go_sem ↓] Go.wp_at_zero Go.wp_at_succ
theorem GO.step {W W':World}{F G F':Nat→Prop}{g o B:Nat}{N M:Qaj} {ls:List (List Int)} (h:GO W F G g o N ls) (hk:Kin N M) (hg:GrO W' F' g M) (hF:∀ b,F' b→(F b∨W.heap.size≤b)∧b<B) (hK:Qaz (fun b=>¬F b) W W') (hz:W.heap.size≤W'.heap.size):GO W' F' G g o M ls :=
 ⟨hg,(h.ov.le (hK.mono (fun b hb=>h.dis b hb)).msk).alike hk.al,fun b hb hf=>by
  have h1:=h.lt b hb
  rcases (hF b hf).1 with h2|h2
  · exact h.dis b hb h2
  · omega,fun b hb=>Nat.lt_of_lt_of_le (h.lt b hb) hz⟩
theorem Blk.msk_ {w:World}{G:Nat→Prop}{g:Nat}{t:TypeId}{cs:Array Value}(h:Blk w g t cs)(hG:G g):Blk (msk w G) g t cs:=(Qps hG).trans h
theorem Blk.rdCh1 {w:World}{g:Nat}{c:Chn} (h:Blk w g 83 #[.int .i64 c.1,.int .i64 c.2.1,.int .i64 c.2.2.1,.int .i64 c.2.2.2.1,.int .i64 c.2.2.2.2]):Qha w (some ⟨g,0,none⟩) 1 [c] :=
 ⟨rfl,fun i x hx=>by
  match i,hx with
  | 0,hx =>
   cases hx
   obtain ⟨h0,h1,h2,h3,h4⟩:=h.chn;exact ⟨g,0,rfl,by simpa using h0,by simpa using h1,by simpa using h2,by simpa using h3,by simpa using h4⟩
  | i+1,hx=>simp at hx⟩
theorem k_how:Qeq (tb Qin (Qcc Qbm Qin ch30))=2:=by decide
theorem k_dif:tb Qin (Qpu Qbm.ar Qin [11,2] [31,2])=[[true,false],[false]]:=by decide
theorem k_sum9:Qbf (gatesOf Qbm.ar Qin)≤1000000000:=by rw [Qpg];decide
set_option maxRecDepth 20000 in
set_option maxHeartbeats 4000000 in
theorem Qig (w:World)(hg:w.cell? ⟨0,0,none⟩=some Qmc):Calls prog 8 #[] w fun e w'=>e=.returned (.bool true)∧Below w.heap.size w w':=by
 have HG:=Zh hg;have hg0:=Qak hg;simp only at hg0;clear hg
 go_enter func8,ntmps8
 go_wp2_with fail
 with_reducible refine (ring_any w).mono ?_
 rintro e w1 ⟨A,B,C,rfl,hN,hb1⟩;have HN1:=Zh hN;have HB1:=Zh hb1;clear hN hb1
 go_wp2_with fail
 (refine Qag ?_;intro w2 hw2)
 have hb2:Below w1.heap.size w1 w2:=by rw [hw2];exact Qae
 have hX2:Blk w2 w1.heap.size 26 #[.slice A 3 3,.slice B 4 4,.slice C 3 3]:=by rw [hw2];exact Blk.new _ _ _
 have HN2:=Zh (HN1.out.below hb2);have HB2:=Zh (Zb HB1.out hb2);clear hw2 hb2 HN1 HB1;have HSX:=Zh (show ∀ V,Blk V w1.heap.size 26 #[.slice A 3 3,.slice B 4 4,.slice C 3 3]→V.cell? ⟨w1.heap.size,0,none⟩=some (.slice A 3 3)∧V.cell? ⟨w1.heap.size,1,none⟩=some (.slice B 4 4)∧V.cell? ⟨w1.heap.size,2,none⟩=some (.slice C 3 3) from fun V hV=>⟨Zq hV,Zq hV,Zq hV⟩)
 refine wp_region_held_drew (S:=fun V=>Blk V w1.heap.size 26 #[.slice A 3 3,.slice B 4 4,.slice C 3 3]) (by kernel_rfl) hX2.drew (fun _=>?_);refine tz 0 13 ?_;refine tz 2 15 ?_;refine Zk 1 (fun K hK=>?_);go_simp;with_reducible refine (Qhd A B C 3 4 3 3 4 3 Qbm w2.drew (HN2.out.below (Zr _ _).drew) Qsd).mono ?_
 rintro e w3 ⟨g,rfl,hG,hb3⟩;have hb23:Below w2.heap.size w2 w3:=(Zr _ _).drew.trans hb3;have hX3:=hX2.below hb23 hX2.lt;have HN3:=Zh (HN2.out.below hb23);have HB3:=Zh (Zb HB2.out hb23);have HG3:=Zh hG;have hz2:=HB2.out.size;clear hG hb3 hb23 hX2 HN2;go_simp;refine hK.out _ _ hX3 (fun _=>?_);clear hK K;refine Zk 3 (fun K hK=>?_);go_simp;with_reducible refine (two_any w3).mono ?_
 rintro e w4 ⟨Q,rfl,hT,hb4⟩;have hX4:=hX3.below hb4 hX3.lt;have HT4:=Zh hT;have HN4:=Zh (HN3.out.below hb4);have HG4:=Zh (HG3.out.below hb4);have HB4:=Zh (Zb HB3.out hb4);have hz34:=hb4.size;clear hb4 hT HN3 HG3 HB3;go_simp;refine hK.out _ _ hX4 (fun _=>?_);clear hK K;refine Zk 4 (fun K hK=>?_);go_simp;with_reducible refine (Qhc A B C Q 3 4 3 3 4 3 2 2 Qbm Qin w4 HN4.out Qsd HT4.out k_part).mono ?_
 rintro e w5 ⟨o,rfl,hO,hb5⟩;have hX5:=hX4.below hb5 hX4.lt;obtain ⟨F,G,hGO,hFL⟩:∃ F G,GO w5 F G g o Qbm Qin∧∀ b,F b→w.heap.size≤b:=⟨_,_,⟨HG4.out.below hb5,hO,fun b h1 h2=>by omega,fun b h=>h.2⟩,fun b h=>Nat.le_trans hz2 h.1⟩;have HGO:=Zh hGO;have HFL:=Zh hFL;have HB5:=Zh (Zb HB4.out hb5);clear hb5 hO HN4 HG4 HB4 HT4 hGO hFL hz34 hz2 HB2;go_simp;refine hK.out _ _ hX5 (fun _=>?_);clear hK K;refine tz 5 2 ?_;refine tz 6 3 ?_;refine Zd ?_;clear HSX hX3 hX4 hX5
 go_wp2_with fail
 (refine Qac ?_;intro w6 hw6)
 have hb6:Below w5.heap.size w5 w6:=by rw [hw6];exact Qae
 have hA6:Blk w6 w5.heap.size 2 (Qad [11,2]).toArray:=by rw [hw6];exact Blk.alloc (Blk.new _ _ _) _
 have hC6:Blk w6 (w5.heap.size+1) 83 #[.int .i64 1,.int .i64 0,.int .i64 0,.int .i64 0,.int .i64 30]:=by rw [hw6];exact Blk.new' _ _ _ (by simp)
 clear hw6;have HGO6:=Zh (HGO.out.below hb6);have HB6:=Zh (Zb HB5.out hb6);have hF5:∀ b,w5.heap.size≤b→¬F b:=fun b hb hf=>by have:=HGO.out.gr.lt hf;omega
 have HD:=do_ok w6 g o F Qbm Qin (some ⟨w5.heap.size+1,0,none⟩) (some ⟨w5.heap.size,0,none⟩) 1 1 2 ch30 [11,2] HGO6.out.gr HGO6.out.ovF k_part k_sum9 (by rw [Qpg];exact (hA6.msk_ (hF5 _ (Zn _))).rdI rfl) k_all ((hC6.msk_ (hF5 _ (Nat.le_succ _))).rdCh1 (c:=(1,0,0,0,30))) Qvo (by decide);rw [Qpg] at HD;clear hb6 hA6 hC6 HGO HB5;with_reducible refine HD.mono ?_
 clear HD;unfold DoP;rintro r w7 ⟨Bc,cl,F',rfl,hz,hBc,hall,hF',hG',hKp,hsz,hBel⟩;obtain rfl:=hall.uniq m_all;rw [k_how,Qpg];have HGO7:=Zh (HGO6.out.step Qeu hG' hF' hKp hsz);have HB7:=Zh (HB6.out.trans (hBel w.heap.size HB6.out.size HFL.out));have HC7:=Zh hBc;clear hz hBc hall hF' hG' hKp hsz hBel HGO6 HB6
 go_wp2_with fail
 (refine Qac ?_;intro w8 hw8)
 have hb8:Below w7.heap.size w7 w8:=by rw [hw8];exact Qae
 have hA8:Blk w8 w7.heap.size 2 (Qad [11,2]).toArray:=by rw [hw8];exact Blk.new _ _ _
 clear hw8;have HGO8:=Zh (HGO7.out.below hb8);have HB8:=Zh (Zb HB7.out hb8);have HC8:=Zh (HC7.out.below hb8 HC7.out.lt);have HD:=Qpz w8 o Qbm.ar Qin (some ⟨w7.heap.size,0,none⟩) (some ⟨Bc,0,none⟩) 2 2 2 [11,2] [31,2] (HGO8.out.ovR.alike Qeu.symm.al) (hA8.rdI rfl) (HC8.out.rdI rfl) Qpg.symm (by omega) (by decide) (by decide) (by decide);rw [k_dif,show Qin.length=2 from rfl] at HD
 clear hb8 hA8 HGO7 HB7 HC7;with_reducible refine HD.mono ?_
 clear HD;unfold TlP;rintro r w9 ⟨TT,cs,bs,rfl,hTT,hb9⟩;have HGO9:=Zh (HGO8.out.below hb9);have HB9:=Zh (Zb HB8.out hb9);have HC9:=Zh (HC8.out.below hb9 HC8.out.lt);have HT9:=Zh (show RdQ w9 (some ⟨TT,0,none⟩) 2 [[true,false],[false]] from hTT.rdQ (by decide))
 clear hb9 hTT HGO8 HB8 HC8
 go_wp2_with fail
 with_reducible refine (do_size w9 g o Qdp.ar Qin none none 0 0 0 0 HGO9.out.ovR (by rw [Qeu.al.gatesOf,Qpg];omega)).mono ?_
 rintro r wa ⟨va,rfl,hch,hba⟩;obtain ⟨tv,xv,rfl⟩:=Qbv hch;have HCH:=Zh hch;have HGOa:=Zh (HGO9.out.below hba);have HBa:=Zh (Zb HB9.out hba);have HCa:=Zh (HC9.out.below hba HC9.out.lt);have HTa:=Zh (HT9.out.below hba);clear hch hba HGO9 HB9 HC9 HT9
 go_wp2_with fail
 (refine Qac ?_;intro wb hwb)
 have hbb:Below wa.heap.size wa wb:=by rw [hwb];exact Qae
 have hAb:Blk wb wa.heap.size 2 (Qad [31,2]).toArray:=by rw [hwb];exact Blk.new _ _ _
 clear hwb;with_reducible refine (Qhs (some ⟨Bc,0,none⟩) (some ⟨wa.heap.size,0,none⟩) 2 2 2 2 [31,2] [31,2] wb ((HCa.out.below hbb HCa.out.lt).rdI rfl) (hAb.rdI rfl) (by omega) (by omega)).mono ?_
 rintro e wc ⟨rfl,kc,hwc⟩;rw [show decide ((([31,2]:List Int))=[31,2])=true from rfl]
 have hbc:Below wa.heap.size wa wc:=by rw [hwc];exact Qas hbb kc
 have HCHc:=Zh (HCH.out.below hbc);have HGOc:=Zh (HGOa.out.below hbc);have HBc:=Zh (Zb HBa.out hbc);have HTc:=Zh (HTa.out.below hbc);clear hwc hbb hbc hAb HCH HGOa HBa HCa HTa
 go_wp2_with fail
 (refine Qac ?_;intro wd hwd)
 have hbd:Below wc.heap.size wc wd:=by rw [hwd];exact Qae
 have hQd:RdQ wd (some ⟨wc.heap.size+1+1,0,none⟩) 2 [[true,false],[false]]:=by
  have b0:Blk wd wc.heap.size 4 (Qco [true,false]):=by rw [hwd];exact Blk.alloc (Blk.alloc (Blk.new wc 4 (Qco [true,false])) _) _
  have b1:Blk wd (wc.heap.size+1) 4 (Qco [false]):=by rw [hwd];exact Blk.alloc (Blk.new' _ 4 (Qco [false]) (by simp)) _
  have b2:Blk wd (wc.heap.size+1+1) 80 #[.slice (some ⟨wc.heap.size,0,none⟩) 2 2,.slice (some ⟨wc.heap.size+1,0,none⟩) 1 1]:=by rw [hwd];exact Blk.new' _ _ _ (by simp)
  refine ⟨rfl,fun i l hl=>?_⟩
  match i,hl with
  | 0,hl =>
   cases hl
   exact ⟨wc.heap.size+1+1,0,_,2,2,rfl,Zq b2,b0.rdB rfl,Zn _,by omega⟩
  | 1,hl =>
   cases hl
   exact ⟨wc.heap.size+1+1,0,_,1,1,rfl,Zq b2,b1.rdB rfl,Zn _,by omega⟩
  | k+2,hl=>simp at hl
 clear hwd;with_reducible refine (Qip (some ⟨TT,0,none⟩) (some ⟨wc.heap.size+1+1,0,none⟩) 2 2 2 _ wd (HTc.out.below hbd) hQd (by omega) (by decide)).mono ?_
 rintro e we ⟨rfl,hbe⟩;have hbde:=Zb hbd hbe;have HCHe:=Zh (HCHc.out.below hbde);have HGOe:=Zh (HGOc.out.below hbde);have HBe:=Zh (Zb HBc.out hbde);clear hbd hbe hbde hQd HCHc HGOc HBc HTc
 go_wp2_with fail
 with_reducible refine (Qkh (⟨#[109,101,110,100]⟩:ByteArray) 0 1 we).mono ?_
 rintro r wf ⟨_,rfl,⟨A4,n4,m4,rfl,h4,h5⟩,hbf⟩;have HR4:=Zh h4;have HCHf:=Zh (HCHe.out.below hbf);have HGOf:=Zh (HGOe.out.below hbf);have HBf:=Zh (Zb HBe.out hbf);clear h4 hbf HCHe HGOe HBe
 go_wp2_with fail
 with_reducible refine (Qjs (.iface tv xv) A4 n4 m4 [((⟨#[109,101,110,100]⟩:ByteArray),0)] 1 wf HCHf.out HR4.out (by omega) (Zc HBf.out (Zn _) HG.out) (by omega)).mono ?_
 rintro r wh ⟨rfl,hbh⟩;have HGOh:=Zh (HGOf.out.below hbh);have HBh:=Zh (Zb HBf.out hbh);clear hbh HGOf HBf HCHf HR4
 go_wp2_with fail
 have HWG:=show Calls prog 32 #[.pointer (some ⟨g,0,none⟩),.int .i64 0] wh _ from Qft g 0 Qdp (0,1,30) wh HGOh.out.gr.rd rfl
 with_reducible refine HWG.mono ?_
 rintro r wi ⟨rfl,rfl⟩
 go_wp2_with fail
 go_ret
 exact ⟨rfl,HBh.out⟩
end Go.Proofs.YthoagdpakddbdaaGreatDoor
namespace Go.Proofs.YthoagdpakddbdaaGreatDoor
open Go.RowKit Go.Proofs.Tryz
attribute [local go_sem ↓] Go.wp_at_zero Go.wp_at_succ
theorem Qqh (A B C:Option Addr)(n m k c d e:Nat)(a:Int)(w:World)(h0:0≤a)(h1:a<m) :
 Calls prog 95 #[.agg #[.slice A n c,.slice B m d,.slice C k e],.int .i64 a] w fun r w'=>r=.returned (.bool true)∧Below w.heap.size w w':=by
 go_enter func95,ntmps95
 go_wp2
 go_ret
 exact ⟨Qav (by first|(simp;done)|(simp;omega)),Qae⟩
theorem RdW.keepB {w w':World}{A:Option Addr}{n:Nat} {l:List (ByteArray×Int)} (h:RdW w A n l) (hk:∀ b,Qab A=some b→w'.heap[b]?=w.heap[b]?):RdW w' A n l :=
 ⟨h.1,fun i x hx=>by
  obtain ⟨b,o,e,h1,h2⟩:=h.2 i x hx;have hb:=hk b (by rw [e];rfl);exact ⟨b,o,e,Qdj hb h1,Qdj hb h2⟩⟩
theorem RdW.setFar {W:World}{A:Option Addr}{n:Nat} {l:List (ByteArray×Int)} (h:RdW W A n l) (g i:Nat) (v:Value) (hne:∀ b,Qab A=some b→b≠g∧b<W.heap.size):RdW (W.setCell ⟨g,i,none⟩ v) A n l :=
 h.keepB (fun b e=>(Qaz.set W g i v (G:=fun b=>b≠g) (fun h=>h rfl)) b (hne b e).1 (hne b e).2)
theorem Qqz (s:ByteArray)(k c:Int)(w:World):Calls prog 14 #[.string s,.int .i64 k,.int .i64 c] w fun e w'=>∃ A n m,e=.returned (.agg #[.slice A n m,.int .i64 c])∧RdW w' A n [(s,k)]∧(∀ b,Qab A=some b→w.heap.size≤b∧b<w'.heap.size)∧n≤1000000∧Below w.heap.size w w':=by
 go_enter func14,ntmps14
 go_wp2
 refine bodyPost_ret (v:=.agg #[.slice (some ⟨w.heap.size+1,0,none⟩) 1 1,.int .i64 c]) (by simp [results,results14,go_sem]) rfl ?_;refine ⟨_,1,1,rfl,⟨rfl,fun i x hx=>?_⟩,fun b e=>?_,by omega,Qae⟩
 · match i,hx with
   | 0,hx=>cases hx;exact ⟨_,_,rfl,by simp,by simp⟩
   | i+1,hx=>simp at hx
 · have e:w.heap.size+1=b:=Option.some.inj e
   subst e;exact ⟨by omega,by simp⟩
theorem Qqw (A B C:Option Addr)(n m k c d e:Nat)(a:Int)(w:World) (h1:¬(0≤a∧a<m)) :
 Calls prog 95 #[.agg #[.slice A n c,.slice B m d,.slice C k e],.int .i64 a] w fun r w'=>r=.returned (.bool false)∧Below w.heap.size w w':=by
 by_cases h0:0≤a
 · have h2:¬a<m:=by omega
   clear h1
   go_enter func95,ntmps95
   go_wp2
   go_ret
   exact ⟨Qav (by first|(simp;done)|(simp;omega)),Qae⟩
 · clear h1
   go_enter func95,ntmps95
   go_wp2
   go_ret
   exact ⟨Qav (by first|(simp;done)|(simp;omega)),Qae⟩
end Go.Proofs.YthoagdpakddbdaaGreatDoor
