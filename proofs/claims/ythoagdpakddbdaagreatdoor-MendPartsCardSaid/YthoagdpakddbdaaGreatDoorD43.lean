/- For every input MendParts returns true, and its arguments read afterwards as before; package errors' variable errorType tied to the program's text. No condition. -/
import Derived.Test.YthoagdpakddbdaaGreatDoorD1
import Derived.Test.YthoagdpakddbdaaGreatDoorD40
import Derived.Test.YthoagdpakddbdaaGreatDoorD41
namespace Go.Proofs.YthoagdpakddbdaaGreatDoor
open Go.RowKit Go.Extern.Stop Go.Stop Go.Extern Go.Proofs.Tryz
attribute [local go_sem ↓] Go.wp_at_zero Go.wp_at_succ
theorem Qvs {N:Qaj}(hN:Qau N){l m:List Chn} (h:Qch N (l ++m)) (ls:List (List Int)) :
 Qeq (tb ls (Qcc N ls (l ++m)))≤Qeq (tb ls (Qcc N ls l))+Qeq (tb ls (Qcc (Qfg N l) ls m))∧Qeq (tb ls (Qcc N ls l))≤Qeq (tb ls (Qcc N ls (l ++m)))∧Qeq (tb ls (Qcc (Qfg N l) ls m))≤Qeq (tb ls (Qcc N ls (l ++m))):=by
 have e:∀ i q,Qcc N ls (l ++m) i q=(Qcc N ls l i q || Qcc (Qfg N l) ls m i q):=fun i q=>Qwn hN h _ q
 refine ⟨how_tb _ _ _ _ (fun i q hq=>?_),how_le _ _ _ (fun i q hq=>?_),how_le _ _ _ (fun i q hq=>?_)⟩
 · rw [e,Bool.or_eq_true] at hq
   exact hq
 · rw [e,hq,Bool.true_or]
 · rw [e,hq,Bool.or_true]
set_option maxRecDepth 20000 in
set_option maxHeartbeats 8000000 in
theorem Qli (A B C Q:Option Addr)(n m k c d e L cq:Nat)(N:Qaj) (ls:List (List Int)) (CA:Option Addr) (cn cc:Nat) (cl:List Chn) (az:Int) (w:World) (h:Qbo w A B C n m k N) (hk:k≤9223372036854775807) (hq:RdT w Q L ls) (hL:L≤9223372036854775807) (hc:Qha w CA cn cl) (hcc:cn≤cc∧cc≤9223372036854775807) (haz:0≤az∧az≤255) (hg:w.cell? ⟨0,0,none⟩=some Qmc) :
 Calls prog 6 #[.agg #[.slice A n c,.slice B m d,.slice C k e],.agg #[.slice Q L cq],.slice CA cn cc,.int .u8 az] w fun r w'=>r=.returned (.bool true)∧Below w.heap.size w w':=by
 have HC:=Zh hc;clear hc;obtain ⟨an,rfl⟩:∃ an:Nat,az=an:=⟨az.toNat,by omega⟩;have han:an<256:=by omega
 have HH:=Zh h;have HT:=Zh hq;have HG:=Zh hg;have HNA:=Zh (show N.ar.length=m from h.2.1.1)
 have HNV:=Zh (show N.vs.length=n from h.1.1)
 clear h hq hg
 go_enter func6,ntmps6
 go_wp2_with fail
 (refine Qac ?_;intro w1 hw1)
 have hb1:Below w.heap.size w w1:=by rw [hw1];exact Qae
 have hX:Blk w1 w.heap.size 26 #[.slice A n c,.slice B m d,.slice C k e]:=by rw [hw1];exact Qay
 have hY:Blk w1 (w.heap.size+1) 29 #[.slice Q L cq]:=by rw [hw1];exact Qay
 clear hw1;with_reducible refine (Qig w1 (Zc hb1 (Zn _) HG.out)).mono ?_
 rintro r w2 ⟨rfl,hb2⟩;have hq2:=hb2;have hX2:=hX.below hb2 hX.lt;have hY2:=hY.below hb2 hY.lt;have hb2':=Zb hb1 hb2;clear hX hY hb1 hb2;obtain ⟨x0,x1,x2⟩:=hX2.three;have y0:=hY2.cell 0;simp only [List.getElem?_toArray,List.getElem?_cons_zero] at y0
 go_wp2_with fail
 with_reducible refine (Qjp A B C Q n m k c d e L cq N ls w2 (HH.out.below hb2') hk (HT.out.below hb2') hL).mono ?_
 rintro r w3 ⟨hr,hb3⟩;have hb3':=Zb hb2' hb3;have hq3:=Zb hq2 hb3;have hX3:=hX2.below hb3 hX2.lt;have hY3:=hY2.below hb3 hY2.lt;clear x0 x1 x2 y0 hX2 hY2 hb2' hb3 hq2;obtain ⟨b,rfl,hGG⟩:=hr
 cases b with
 | false =>
  clear hGG
  go_wp2_with fail
  go_ret
  exact ⟨rfl,hb3'⟩
 | true =>
 have hmay:=hGG rfl;clear hGG;have HMAY:=Zh hmay;have hok:=hmay.small.ok;have hS9:=Qmz hmay;have HB3:=Zh hb3';have HX3:=Zh hX3;have HY3:=Zh hY3;clear hmay hb3' hq3 hX3 hY3;obtain ⟨x0,x1,x2⟩:=HX3.out.three;have y0:=HY3.out.cell 0;simp only [List.getElem?_toArray,List.getElem?_cons_zero] at y0;obtain ⟨ps,c0,hck⟩:=ck_ex N cl
 go_wp2_with fail
 with_reducible refine (Qfe A B C n m k c d e N CA cn cc cl w3 (HH.out.below HB3.out) (HC.out.below HB3.out) (by omega) ps c0 hck).mono ?_
 rintro r w4 ⟨⟨A4,n4,m4,rfl,hp4,hz4,h54⟩,hb4⟩;have hfl:∀ V,(Instr.field 48 (.agg #[.slice A4 n4 m4,.int .i64 c0]) 1).run prog V=.ok (.int .i64 c0) V:=fun V=>by rfl
 have HB4:=Zh (Zb HB3.out hb4);have HX4:=Zh (HX3.out.below hb4 HX3.out.lt);have HY4:=Zh (HY3.out.below hb4 HY3.out.lt);clear hp4 hz4 h54 hb4 x0 x1 x2 y0 HX3 HY3 HB3
 by_cases hc0:c0=0
 rotate_left
 · have e1:(c0 != 0)=true:=by simpa using hc0
   go_wp2_with fail
   go_ret
   exact ⟨rfl,HB4.out⟩
 subst hc0;obtain ⟨hl256,hbat⟩:=hck.ok;have HBAT:=Zh hbat;clear hck hbat;obtain ⟨x0,x1,x2⟩:=HX4.out.three;have y0:=HY4.out.cell 0;simp only [List.getElem?_toArray,List.getElem?_cons_zero] at y0;have HLN:=Zh (show cl.length=cn from HC.out.1)
 go_wp2_with fail
 have HSX:=Zh (show ∀ V,Below w4.heap.size w4 V→V.cell? ⟨w.heap.size,0,none⟩=some (.slice A n c)∧V.cell? ⟨w.heap.size,1,none⟩=some (.slice B m d)∧V.cell? ⟨w.heap.size,2,none⟩=some (.slice C k e)∧V.cell? ⟨w.heap.size+1,0,none⟩=some (.slice Q L cq) from fun V hV=>by
  obtain ⟨z0,z1,z2⟩:=(HX4.out.below hV HX4.out.lt).three;have q0:=(HY4.out.below hV HY4.out.lt).cell 0;simp only [List.getElem?_toArray,List.getElem?_cons_zero] at q0;exact ⟨z0,z1,z2,q0⟩)
 refine wp_region_held_drew (S:=fun V=>Below w4.heap.size w4 V) (by kernel_rfl) (Zr _ _).drew (fun _=>?_);clear x0 x1 x2 y0;have hcn9:cn≤256:=by rw [←HLN.out];exact hl256
 refine tz 0 36 ?_;refine tz 2 38 ?_;refine tz 4 40 ?_;refine tz 5 41 ?_;refine Zk 1 (fun K hK=>?_);go_simp;with_reducible refine (Qhd A B C n m k c d e N w4.drew (HH.out.below HB4.out.drew) hok).mono ?_
 rintro r w5 ⟨g,rfl,hG5,hb5⟩;have hb5':Below w4.heap.size w4 w5:=(Zr _ _).drew.trans hb5;have HG5:=Zh hG5;have hz5:=HB4.out.size;clear hb5 hG5;go_simp;refine hK.out _ _ hb5' (fun _=>?_);clear hK K;refine Zk 3 (fun K hK=>?_);go_simp;with_reducible refine (Qhd A B C n m k c d e N w5 (HH.out.below (Zb HB4.out hb5')) hok).mono ?_
 rintro r w5b ⟨g2,rfl,hG2,hb2⟩;have hb5b:=Zb hb5' hb2;have HG5b:=Zh (HG5.out.below hb2);have HG2:=Zh hG2;have hz5b:=hb2.size;have hz5a:=hb5'.size;clear hG2 HG5 hb2;go_simp;refine hK.out _ _ hb5b (fun _=>?_);clear hK K;refine Zk 6 (fun K hK=>?_);go_simp;with_reducible refine (Qhc A B C Q n m k c d e L cq N ls w5b (HH.out.below (Zb HB4.out hb5b)) hok (HT.out.below (Zb HB4.out hb5b)) HMAY.out.part).mono ?_
 rintro r w6 ⟨o,rfl,hO6,hb6⟩;have hz6:=hb6.size
 obtain ⟨F,F2,G,hGO,hGO2,hFF,hFL⟩:∃ F F2 G,GO w6 F G g o N ls∧GO w6 F2 G g2 o N ls∧(∀ b,F b→¬F2 b)∧∀ b,F b∨F2 b→w.heap.size≤b:=⟨_,_,_,⟨HG5b.out.below hb6,hO6,fun b h1 h2=>by omega,fun b h=>h.2⟩,⟨HG2.out.below hb6,hO6,fun b h1 h2=>by omega,fun b h=>h.2⟩,fun b h1 h2=>by omega,fun b h=>by
  rcases h with h|h
  · exact Nat.le_trans hz5 h.1
  · exact Nat.le_trans hz5 (Nat.le_trans hz5a h.1)⟩
 obtain ⟨NC,hNC⟩:∃ NC,NC=Qbf (gatesOf N.ar ls):=⟨_,rfl⟩;have HS6:=Zh (show MdS w6 F G g o N ls NC from ⟨hGO,HMAY.out.part,hNC,by rw [hNC];exact hS9⟩)
 have HR6:=Zh (show MdS w6 F2 G g2 o N ls NC from ⟨hGO2,HMAY.out.part,hNC,by rw [hNC];exact hS9⟩)
 have HFL:=Zh hFL;have HFF:=Zh hFF;have HGF:=Zh hGO.dis;have HN9:=Zh (show NC≤1000000000 by rw [hNC];exact hS9)
 have HNC:=Zh hNC;have HB6z:=Zh (show w.heap.size≤w6.heap.size from Nat.le_trans (Nat.le_trans hz5 hz5a) (Nat.le_trans hz5b hz6))
 have hb6':=Zb hb5b hb6;have HB6:=Zh (Zb HB4.out hb6');clear hO6 hb6 hGO hGO2 hFL hFF HG5b HG2 hz5 hNC hz6 hz5b hz5a;go_simp;refine hK.out _ _ hb6' (fun _=>?_);clear hK K;refine tz 7 9 ?_;refine tz 8 10 ?_;refine tz 9 11 ?_;refine Zd ?_;clear HSX hb5' hb5b hb6' HX4 HY4 HB4;obtain ⟨s,hs⟩:∃ s,s=an % (cn+1):=⟨_,rfl⟩;have hsn:s≤cn:=by rw [hs];have:=Nat.mod_lt an (show 0<cn+1 by omega);omega
 have m0:Int.tmod (an:Int) ((cn:Int)+1)=(s:Int):=by rw [hs];exact (Int.ofNat_tmod an (cn+1)).symm
 have m1:(an:Int) % ((cn:Int)+1)=(s:Int):=by rw [hs];rfl
 have m2:IntKind.i64.wrap (s:Int)=(s:Int):=IntWalk.i64_in _ (by omega);have m3:IntKind.i64.wrap (an:Int)=(an:Int):=IntWalk.i64_in _ (by omega);have m4:¬((cn:Int)+1=0):=by omega
 have j1:(0:Int)≤(s:Int):=by omega
 have j2:(s:Int)≤(cc:Int):=by omega
 have j3:(s:Int)≤(cn:Int):=by omega
 clear hs;have hsl:=fun W=>Qjx (P:=prog) 57 71 5 underlying57 (by kernel_rfl) (by kernel_rfl) CA cn cc s (cn-s) hsn rfl .i64 (s:Int) rfl W
 obtain ⟨hb1,hb2⟩:=Qmy (l:=cl.take s) (m:=cl.drop s) (by rw [List.take_append_drop];exact HBAT.out);have HW:=Zh (Qvs hok (l:=cl.take s) (m:=cl.drop s) (by rw [List.take_append_drop];exact HBAT.out) ls);rw [List.take_append_drop] at HW;have HBT1:=Zh hb1;have HBT2:=Zh hb2;have HF6:=Zh (fun b hb=>HS6.out.go.gr.lt (b:=b) hb);have HF26:=Zh (fun b hb=>HR6.out.go.gr.lt (b:=b) hb);clear hb1 hb2
 go_wp2_with fail
 with_reducible refine (Qwb w6 F G g o N ls NC HS6.out).mono ?_
 unfold AllQ;rintro r w7 ⟨B0,wl,rfl,hz0,hB0,hA0,hb7⟩;have HS7:=Zh (HS6.out.below hb7);have HR7:=Zh (HR6.out.below hb7);have HB7:=Zh (Zb HB6.out hb7);have HB0:=Zh hB0;have HA0:=Zh hA0;have hz67:=hb7.size;clear hB0 hA0 hb7 HS6 HR6 HB6
 go_wp2_with fail
 with_reducible refine (Qhv CA cn cc cl w7 (HC.out.below HB7.out) (by omega)).mono ?_
 rintro r w8 ⟨A8,c8,rfl,ho8,hb8⟩;have hz78:=hb8.size;have HD8:=Zh (Qsn w8 F G g o N ls NC A8 cn c8 NC B0 w7.heap.size cl wl (HS7.out.below hb8) (HB0.out.below hb8 HB0.out.lt) (fun h=>by have:=HF6.out B0 h;omega) HA0.out ho8 (fun b h=>by have:=HF6.out b h;omega) HBAT.out hl256);have HR8:=Zh (HR7.out.below hb8);have HB8:=Zh (Zb HB7.out hb8);have HC8:=Zh (HB0.out.below hb8 HB0.out.lt);have hlt0:B0<w7.heap.size:=HB0.out.lt
 clear ho8 hb8 HS7 HR7 HB7 HB0
 go_wp2_with fail
 with_reducible refine HD8.out.mono ?_
 unfold DoQ;rintro r w9 ⟨B9,cl9,F9,rfl,hz9,hB9,hA9,_,_,hK9,hsz9,hBel9⟩;obtain ⟨hi,hhi⟩:∃ x,x=Qeq (tb ls (Qcc N ls cl)):=⟨_,rfl⟩;rw [←hhi] at HW ⊢;have hi9:hi≤24576:=by rw [hhi];exact Qyb HMAY.out _
 have HR9:=Zh (HR8.out.keep hK9 hsz9 (fun b h1 h2=>HFF.out b h2 h1) (fun b h1 h2=>HR8.out.go.lt b h1 |> fun _=>HGF.out b h1 h2));have HB9:=Zh (HB8.out.trans (hBel9 w.heap.size HB8.out.size (fun b h=>HFL.out b (.inl h))));have HC9:=Zh (hK9.blkM HC8.out (fun h=>by have:=HF6.out B0 h;omega));have HE9:=Zh hB9;have HA9:=Zh hA9;have hlt9:B9<w9.heap.size:=hB9.lt
 clear hB9 hA9 hK9 hBel9 HD8 HR8 HB8 HC8 hhi
 go_wp2_with fail
 with_reducible refine (Qhv CA s cc (cl.take s) w9 ((HC.out.below HB9.out).take hsn) (by omega)).mono ?_
 rintro r wa ⟨Aa,ca,rfl,hoa,hba⟩;have hza:=hba.size;have HDa:=Zh (Qsn wa F2 G g2 o N ls NC Aa s ca NC B0 w9.heap.size (cl.take s) wl (HR9.out.below hba) (HC9.out.below hba HC9.out.lt) (fun h=>by have:=HF26.out B0 h;omega) HA0.out hoa (fun b h=>by have:=HF26.out b h;omega) HBT1.out (by rw [List.length_take];omega));have HBa:=Zh (Zb HB9.out hba);have HEa:=Zh (HE9.out.below hba HE9.out.lt);clear hoa hba HR9 HB9 HC9 HE9
 go_wp2_with fail
 with_reducible refine HDa.out.mono ?_
 unfold DoQ;rintro r wb ⟨Bb,clb,Fb,rfl,hzb,hBb,hAb,hSb,hFb,hKb,hszb,hBelb⟩;obtain ⟨hj,hhj⟩:∃ x,x=Qeq (tb ls (Qcc N ls (cl.take s))):=⟨_,rfl⟩;rw [←hhj] at HW ⊢;have hj9:hj≤24576:=by rw [hhj];exact Qyb HMAY.out _
 have HSb:=Zh hSb;have HFb:=Zh hFb;have HBb:=Zh (HBa.out.trans (hBelb w.heap.size HBa.out.size (fun b h=>HFL.out b (.inr h))));have HEb:=Zh (hKb.blkM HEa.out (fun h=>by have:=HF26.out B9 h;omega));have HCb:=Zh hBb;have HAb:=Zh hAb;have hltb:Bb<wb.heap.size:=hBb.lt
 clear hBb hAb hSb hFb hKb hBelb HDa HBa HEa hhj
 go_wp2_with fail
 with_reducible refine (Qhv (cutA 5 CA s cc) (cn-s) (cc-s) (cl.drop s) wb ((HC.out.below HBb.out).cut hsn rfl hcc.1) (by omega)).mono ?_
 rintro r wc ⟨Ac,ac,rfl,hoc,hbc⟩;have HDc:=Zh (Qsn wc Fb G g2 o (Qfg N (cl.take s)) ls NC Ac (cn-s) ac NC Bb wb.heap.size (cl.drop s) clb (HSb.out.below hbc) (HCb.out.below hbc HCb.out.lt) (fun h=>by have:=(HFb.out Bb h).2;omega) HAb.out hoc (fun b h=>by have:=(HFb.out b h).2;omega) HBT2.out (by rw [List.length_drop];omega));have HBc:=Zh (Zb HBb.out hbc);have HEc:=Zh (HEb.out.below hbc HEb.out.lt);clear hoc hbc HSb HBb HEb HCb
 go_wp2_with fail
 with_reducible refine HDc.out.mono ?_
 unfold DoQ;rintro r wd ⟨Bd,cld,Fd,rfl,hzd,hBd,hAd,_,_,hKd,hszd,hBeld⟩;obtain ⟨hm,hhm⟩:∃ x,x=Qeq (tb ls (Qcc (Qfg N (cl.take s)) ls (cl.drop s))):=⟨_,rfl⟩;rw [←hhm] at HW ⊢;have hm9:hm≤24576:=by rw [hhm];exact Qyb HMAY.out _
 rw [←Qms,List.take_append_drop] at hAd;obtain rfl:=hAd.uniq HA9.out
 have HBd:=Zh (HBc.out.trans (hBeld w.heap.size HBc.out.size (fun b h=>by
  rcases (HFb.out b h).1 with h1|h1
  · exact HFL.out b (.inr h1)
  · have:=HBc.out.size;have:=HB6z.out;omega)))
 have HEd:=Zh (hKd.blkM HEc.out (fun h=>by
  rcases (HFb.out B9 h).1 with h1|h1
  · have:=HF26.out B9 h1;omega
  · omega))
 have HCd:=Zh hBd;have hn9:NC≤1000000000:=HN9.out;have hcl9:cld.length=NC:=by rw [hAd.1,(Qcl HBAT.out).kin.al.gatesOf];exact HNC.out.symm
 clear hBd hAd hKd hBeld HDc HBc HEc hhm;obtain ⟨w1',w2',w3'⟩:=HW.out;have q1:(hi:Int)≤(hj:Int)+(hm:Int):=by omega
 have q2:(hj:Int)≤(hi:Int):=by omega
 have q3:(hm:Int)≤(hi:Int):=by omega
 go_wp2_with fail
 with_reducible refine (Qhs (some ⟨Bd,0,none⟩) (some ⟨B9,0,none⟩) NC NC NC NC cld cld wd (HCd.out.rdI hcl9) (HEd.out.rdI hcl9) hn9 hn9).mono ?_
 rintro r we ⟨rfl,kd,rfl⟩;rw [decide_eq_true rfl]
 go_wp2_with fail
 go_ret
 exact ⟨Qav (by first|(simp;done)|(simp;omega)),Qas HBd.out kd⟩
end Go.Proofs.YthoagdpakddbdaaGreatDoor
namespace Go.Proofs.YthoagdpakddbdaaGreatDoor
open Go.ChangeShapes Go.WideShapes Go.ChangeAt Go.RowKit Go.Deep
namespace MendPartsDone
set_option maxRecDepth 100000 in
theorem lifted (os:Os)(started:os.Started)(H:Type)(enc:TypeId×Value→H) :
 ReturnsInHanded {} Tryz.checked os 6 .any (fun w args => (Rows.mendPartsSpec.pre enc Tryz.prog Tryz.f6 [] false w args ∧ laidMetH Tryz.prog [("errors.errorType", Rows.laid_errors_errorType)] w) ∧ sizedMet enc Tryz.prog Tryz.f6 (OpenSpec.ofChange Rows.mendPartsSpec) false w args)
  (Rows.mendPartsSpec.post enc Tryz.prog Tryz.f6 false true false false):=by
 refine returnsInHanded_of_change_and (C := Tryz.checked) (X := fun w _ => laidMetH Tryz.prog [("errors.errorType", Rows.laid_errors_errorType)] w) (fun _ _ _ hh h => h.of_heap hh) own_ started (by kernel_rfl) Tryz.func6
  (ChangeSpec.witness_at (enc := enc) (C := Tryz.checked) (os := os) (X := fun w _ => laidMetH Tryz.prog [("errors.errorType", Rows.laid_errors_errorType)] w) false (Qho os) #[.agg #[.slice none 0 0, .slice none 0 0, .slice none 0 0], .agg #[.slice none 0 0], .slice none 0 0, .int .u8 0] 8 rfl (by kernel_rfl) (by kernel_rfl) (by kernel_rfl) (by kernel_rfl) (by kernel_rfl) (Qfc os _)) ?_
 intro W base args ds gs before hval0 hW _ hsz0 hL _;clear hsz0;have hval:∀ (j:Nat) t v,Tryz.f6.params[j]?=some t→args[j]?=some v→Value.okWide Tryz.prog W .any base t v:=hval0;have hW':=hW;obtain ⟨p,q,hA0,hV,rfl,hfz,hnd⟩:=hW;have hA:DataW.TrodAll enc Tryz.prog W 0 (fun _=>true) true Tryz.f6.params.toList args.toList ds p:=hA0;rw [Tryz.params6] at hA hval;obtain ⟨v0,vs0,d0,ds0,p0,q0,hargs,rfl,rfl,h0,r0⟩:=trodAll_cons hA;obtain ⟨v1,vs1,d1,ds1,p1,q1,rfl,rfl,rfl,h1,r1⟩:=trodAll_cons r0;obtain ⟨v2,vs2,d2,ds2,p2,q2,rfl,rfl,rfl,h2,r2⟩:=trodAll_cons r1;obtain ⟨v3,vs3,d3,ds3,p3,q3,rfl,rfl,rfl,h3,r3⟩:=trodAll_cons r2;obtain ⟨rfl,rfl,rfl⟩:=trodAll_nil r3;obtain rfl:args=#[v0,v1,v2,v3]:=by cases args;simp_all
 obtain ⟨rfl,rfl⟩:=trodVars_none hV;obtain ⟨cs0,rfl,_⟩:=okWide_struct Tryz.underlying26 (hval 0 26 v0 rfl rfl);have k0:=h0;have lt0:∀ x∈p0,x.block<W.heap.size:=by obtain ⟨m,hm⟩:=k0;exact DataW.trod_lt m _ _ _ hm
 obtain ⟨A,B,C,n,m,k,c,d,e,N,hcs0,hnet,hk⟩:∃ (A B C:Option Addr) (n m k c d e:Nat) (N:Qaj),cs0=#[.slice A n c,.slice B m d,.slice C k e]∧Qbo W A B C n m k N∧k≤9223372036854775807:=by
  obtain ⟨fuel,hf⟩:=h0;obtain ⟨A,B,C,n,m,k,c,d,e,N,e1,e2,e3⟩:=Qmr hf;exact ⟨A,B,C,n,m,k,c,d,e,N,Array.toList_inj.1 e1,e2,e3⟩
 subst hcs0;obtain ⟨cs1,rfl,_⟩:=okWide_struct Tryz.underlying29 (hval 1 29 v1 rfl rfl);have k1:=h1;have lt1:∀ x∈p1,x.block<W.heap.size:=by obtain ⟨m,hm⟩:=k1;exact DataW.trod_lt m _ _ _ hm
 obtain ⟨Q,L,cq,ls,hcs1,hpart,hLc⟩:∃ (Q:Option Addr) (L cq:Nat) (ls:List (List Int)),cs1=#[.slice Q L cq]∧RdT W Q L ls∧L≤9223372036854775807:=by
  obtain ⟨fuel,hf⟩:=h1;obtain ⟨Q,L,cq,ls,e1,e2,e3,e4⟩:=Qkq hf;exact ⟨Q,L,cq,ls,Array.toList_inj.1 e1,e2,by omega⟩
 subst hcs1;obtain ⟨a2,len2,cap2,rfl⟩:=okWide_slice Tryz.underlying57 (hval 2 57 v2 rfl rfl);have k2:=h2;have lt2:∀ x∈p2,x.block<W.heap.size:=by obtain ⟨m,hm⟩:=k2;exact DataW.trod_lt m _ _ _ hm
 obtain ⟨ac,hac,hlac⟩:∃ ac:List Chn,Qha W a2 len2 ac∧len2≤cap2∧cap2≤9223372036854775807:=by
  obtain ⟨fuel,hf⟩:=h2;obtain ⟨l,h1,h2,h3⟩:=Qph hf;exact ⟨l,h1,h2,h3⟩
 obtain ⟨a3,rfl,rfl,rfl,w3⟩:=open_int Tryz.underlying5 (hval 3 5 v3 rfl rfl) h3;have hb3:=bounds_u8 w3;clear hA0 hval0;have hg:=Qem hL;refine (Qli A B C Q n m k c d e L cq N ls a2 len2 cap2 ac a3 W hnet hk hpart hLc hac hlac hb3 hg).mono fun e W' ⟨he,bel⟩=>?_
 subst he;exact ⟨_,rfl,_,_,_,[],_,[],hW',trodAll_mk1 (shut_bool Tryz.underlying4 _),(trodAll_cons_mk (Below.trod Qde (by kernel_rfl) (of_decide_eq_true (by kernel_rfl)) k0 bel lt0) (trodAll_cons_mk (Below.trod Qde (by kernel_rfl) (of_decide_eq_true (by kernel_rfl)) k1 bel lt1) (trodAll_cons_mk (Below.trod Qde (by kernel_rfl) (of_decide_eq_true (by kernel_rfl)) k2 bel lt2) (trodAll_cons_mk (shut_int Tryz.underlying5 w3) trodAll_mk0)))),rfl,bel.frame _,fun h=>by cases h⟩
theorem jf0:Rows.mendPartsRow.wf (OpenSpec.ofChange Rows.mendPartsSpec)=true:=by kernel_rfl
theorem jf1:laidOutB Tryz.prog=true:=by kernel_rfl
theorem jf2:mapsRowed Tryz.prog=true:=by kernel_rfl
theorem jf3:Tryz.f6.params.all (Tryz.prog.readableRec ·)=true:=by kernel_rfl
theorem jf4:namedTie Tryz.prog Rows.mendPartsRow.named Rows.mendPartsSpec.vars=true:=by kernel_rfl
theorem jf5:(Rows.mendPartsRow.stops == [])=true:=by kernel_rfl
theorem jf6:(Tryz.prog.stops == [])=true:=by kernel_rfl
theorem jf7:(Rows.mendPartsRow.knobs == [])=true:=by kernel_rfl
theorem jf8:(Tryz.prog.stopKnobs == [])=true:=by kernel_rfl
theorem jf9:(Rows.mendPartsRow.inPlace == Tryz.prog.inPlace 6)=true:=by kernel_rfl
theorem jf10:(Rows.mendPartsRow.unfollowed == Tryz.prog.unfollowed 6)=true:=by kernel_rfl
theorem jf11:(Rows.mendPartsRow.recurses == Tryz.prog.recurses 6)=true:=by kernel_rfl
theorem jf12:(Rows.mendPartsRow.named == Tryz.prog.varsNamed 6)=true:=by kernel_rfl
theorem jf13:(Rows.mendPartsRow.maps == (Tryz.f6.params.toList ++Rows.mendPartsSpec.plain.varTypes Tryz.prog).any (Tryz.prog.mapsRec ·))=true:=by kernel_rfl
theorem jf14:(Rows.mendPartsRow.ifaces == (Tryz.f6.params.toList ++Rows.mendPartsSpec.plain.varTypes Tryz.prog).any (Tryz.prog.ifacesRec ·))=true:=by kernel_rfl
theorem jf15:(Rows.mendPartsRow.mapsOut == Tryz.prog.mapsAmong Tryz.f6.resultTypes.toList)=true:=by kernel_rfl
theorem jf16:(Rows.mendPartsRow.loops == (Tryz.f6.params.toList ++Rows.mendPartsSpec.plain.varTypes Tryz.prog).any (Tryz.prog.loopsFrom ·))=true:=by kernel_rfl
theorem jf17:(Rows.mendPartsRow.wideKeys == (Tryz.f6.params.toList ++Rows.mendPartsSpec.plain.varTypes Tryz.prog ++Tryz.f6.resultTypes.toList).any (Tryz.prog.wideKeysFrom ·))=true:=by kernel_rfl
theorem jf18:Rows.mendPartsSpec.vars.all (Tryz.prog.varReadable ·)=true:=by kernel_rfl
theorem jf19:Tryz.f6.resultTypes.all (fun t=>Tryz.prog.readableRec t && decide (t<Tryz.prog.types.size))=true:=by kernel_rfl
theorem jf20:(Rows.mendPartsRow.ifacesOut == Tryz.f6.resultTypes.toList.any (Tryz.prog.ifacesRec ·))=true:=by kernel_rfl
theorem jf21:(Rows.mendPartsRow.loopsOut == Tryz.f6.resultTypes.toList.any (Tryz.prog.loopsFrom ·))=true:=by kernel_rfl
theorem jf22:(Rows.mendPartsRow.plainKeys == Tryz.prog.plainKeys)=true:=by kernel_rfl
theorem jf23:Rows.mendPartsRow.shortTexts.isNone=true:=by kernel_rfl
theorem jf24:Tryz.prog.stopsHeard=true:=by kernel_rfl
theorem jf25:Tryz.prog.mayEnter=true:=by kernel_rfl
theorem jf26:(Rows.mendPartsRow.lifted == Tryz.prog.liftsFinal)=true:=by kernel_rfl
theorem jf27:(Tryz.prog.make == some Rows.mendPartsRow.make)=true:=by kernel_rfl
theorem jf28:(Rows.mendPartsRow.kinds == (if Rows.mendPartsRow.domain.isEmpty then [] else Tryz.f6.params.toList.map fun t=>match Tryz.prog.underlying t with|some (.int k)=>some k|_=>none))=true:=by kernel_rfl
theorem jf29:(Rows.mendPartsRow.pinned == Rows.mendPartsRow.pinnedBy)=true:=by kernel_rfl
theorem jf30:(Rows.mendPartsRow.veiled == (Tryz.f6.params.toList ++Rows.mendPartsSpec.plain.varTypes Tryz.prog ++Tryz.f6.resultTypes.toList).any (Tryz.prog.veiledRec ·))=true:=by kernel_rfl
theorem jf31:Rows.mendPartsRow.veiledFits Tryz.prog Tryz.f6.params.toList (Tryz.f6.params.toList ++Rows.mendPartsSpec.plain.varTypes Tryz.prog ++Tryz.f6.resultTypes.toList)=true:=by kernel_rfl
set_option maxRecDepth 100000 in
theorem closed:joinedFacts Tryz.prog 6 Tryz.f6 Rows.mendPartsSpec Rows.mendPartsRow=true:=by
 simp only [joinedFacts,Bool.and_eq_true];exact ⟨⟨⟨⟨⟨⟨⟨⟨⟨⟨⟨⟨⟨⟨⟨⟨⟨⟨⟨⟨⟨⟨⟨⟨⟨⟨⟨⟨⟨⟨⟨jf0,jf1⟩,jf2⟩,jf3⟩,jf4⟩,jf5⟩,jf6⟩,jf7⟩,jf8⟩,jf9⟩,jf10⟩,jf11⟩,jf12⟩,jf13⟩,jf14⟩,jf15⟩,jf16⟩,jf17⟩,jf18⟩,jf19⟩,jf20⟩,jf21⟩,jf22⟩,jf23⟩,jf24⟩,jf25⟩,jf26⟩,jf27⟩,jf28⟩,jf29⟩,jf30⟩,jf31⟩
theorem named : Tryz.prog.funcNamed "roundsman/roundsmanlaw20.MendParts" = some 6 := by kernel_rfl
theorem inst:Tryz.f6.isInstance Tryz.prog Rows.mendPartsRow.origin Rows.mendPartsRow.targs:=of_decide_eq_true (by kernel_rfl)
theorem wrap:Tryz.f6.isWrapper Tryz.prog Rows.mendPartsRow.wrapper Rows.mendPartsRow.mainSum:=by unfold Func.isWrapper;rw [if_neg (of_decide_eq_false (by kernel_rfl))];exact ⟨rfl,rfl⟩
theorem over:Rows.MendPartsSaid :=
 OpenClaim.holds_of_wide 6 Tryz.f6 rfl rfl rfl rfl rfl rfl rfl ⟨rfl,rfl,rfl,rfl,rfl⟩ rfl rfl rfl rfl rfl named Tryz.func6 closed inst wrap
  (fun os started H enc _=>lifted os started H enc)
theorem byText:Rows.mendPartsRow.wfByText (OpenSpec.ofChange Rows.mendPartsSpec)=true:=by kernel_rfl
theorem mainIs : Tryz.prog.mainIs = some (((true, "c61748c2e54d6490013d0fbe206834b53a8f4fa6dfde03158dfa1de7149a82b2") : Bool × String).1, ((true, "c61748c2e54d6490013d0fbe206834b53a8f4fa6dfde03158dfa1de7149a82b2") : Bool × String).2.toList) := by kernel_rfl
theorem looksL:true=Tryz.prog.looks []:=by kernel_rfl
theorem goes:false=Rows.mendPartsRow.goesBy Tryz.prog:=by kernel_rfl
theorem proved:Rows.MendPartsCardSaid :=
 Claim7.holds_tied_plain_at .later [] [.handle] true (true, "c61748c2e54d6490013d0fbe206834b53a8f4fa6dfde03158dfa1de7149a82b2") true
  over (fun _ h=>by cases h) byText (fun _ h=>by cases h) mendParts_row_tie rfl ⟨rfl,rfl⟩ mainIs rfl
  (fun f fn hf hfn=>by
   obtain rfl:f=6:=Option.some.inj (named.symm.trans hf) |>.symm
   obtain rfl:fn=Tryz.f6:=(Option.some.inj (Tryz.func6.symm.trans hfn)).symm
   exact ⟨looksL,fun j t ht=>by
    rw [Tryz.params6] at ht
    rcases j with _|_|_|_|j
    · obtain rfl:t=26:=by simpa using ht.symm
      exact (show Tryz.prog.wantsStandIn 26=false by kernel_rfl)
    · obtain rfl:t=29:=by simpa using ht.symm
      exact (show Tryz.prog.wantsStandIn 29=false by kernel_rfl)
    · obtain rfl:t=57:=by simpa using ht.symm
      exact (show Tryz.prog.wantsStandIn 57=false by kernel_rfl)
    · obtain rfl:t=5:=by simpa using ht.symm
      exact (show Tryz.prog.wantsStandIn 5=false by kernel_rfl)
    · simp at ht⟩)
  goes
#print axioms proved
end MendPartsDone
end Go.Proofs.YthoagdpakddbdaaGreatDoor
