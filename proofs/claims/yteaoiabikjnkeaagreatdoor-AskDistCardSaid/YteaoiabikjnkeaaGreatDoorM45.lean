/- For every input AskDist returns true, and its arguments read afterwards as before; package errors' variable errorType tied to the program's text. No condition. -/
import Derived.Test.YteaoiabikjnkeaaGreatDoorM1
import Derived.Test.YteaoiabikjnkeaaGreatDoorM41
import Derived.Test.YteaoiabikjnkeaaGreatDoorM42
import Derived.Test.YteaoiabikjnkeaaGreatDoorM44
namespace Go.Proofs.YteaoiabikjnkeaaGreatDoor
open Go.RowKit Go.Extern.Stop Go.Stop Go.Extern
attribute [local go_sem ↓] Go.wp_at_zero Go.wp_at_succ
theorem Qyb (m S:Nat)(s t:Int):(∃ k,Qeo m S S s t=some (k,5)∧Qeo m (S+1) S s t=some (k,5))∨((0≤s∧s<(m:Int))∧(0≤t∧t<(m:Int))∧Qeo m S S s t=none∧Qeo m (S+1) S s t=some (2,1)):=by
 unfold Qeo
 by_cases h1:s<0∨(m:Int)≤s
 · exact .inl ⟨0,by rw [if_pos h1],by rw [if_pos h1]⟩
 · by_cases h2:t<0∨(m:Int)≤t
   · exact .inl ⟨1,by rw [if_neg h1,if_pos h2],by rw [if_neg h1,if_pos h2]⟩
   · refine .inr ⟨⟨by omega,by omega⟩,⟨by omega,by omega⟩,?_,?_⟩
     · rw [if_neg h1,if_neg h2,if_neg (by simp)]
     · rw [if_neg h1,if_neg h2,if_pos (by omega)]
set_option maxRecDepth 20000 in
set_option maxHeartbeats 4000000 in
theorem Qom (A B C Q:Option Addr)(n m k c d e L cq:Nat)(N:Qao) (ls:List (List Int)) (s t:Int) (w:World) (h:Qbv w A B C n m k N) (hk:k≤9223372036854775807) (hq:RdT w Q L ls) (hL:L≤9223372036854775807) (hg:w.cell? ⟨0,0,none⟩=some Qnk) :
 Calls Tryz.prog 3 #[.agg #[.slice A n c,.slice B m d,.slice C k e],.agg #[.slice Q L cq],.int .i64 s,.int .i64 t] w fun r w'=>r=.returned (.bool true)∧Below w.heap.size w w':=by
 have HH:=Zh h;have HT:=Zh hq;have HG:=Zh hg;have HNA:=Zh (show N.ar.length=m from h.2.1.1)
 clear h hq hg
 go_enter Tryz.func3,Tryz.ntmps3
 go_wp2_with fail
 (refine Qad ?_; intro w1 hw1)
 have hb1:Below w.heap.size w w1:=by rw [hw1]; exact Qah
 have hX:Blk w1 w.heap.size 26 #[.slice A n c,.slice B m d,.slice C k e]:=by rw [hw1]; exact Qba
 have hY:Blk w1 (w.heap.size+1) 29 #[.slice Q L cq]:=by rw [hw1]; exact Qba
 clear hw1;with_reducible refine (Qmc w1 (Zc hb1 (Zn _) HG.out)).mono ?_
 rintro r w2 ⟨rfl,hb2⟩;have hX2:=hX.below hb2 hX.lt;have hY2:=hY.below hb2 hY.lt;have hb2':=Zb hb1 hb2;clear hX hY hb1 hb2;obtain ⟨x0,x1,x2⟩:=hX2.three;have y0:=hY2.cell 0;simp only [List.getElem?_toArray,List.getElem?_cons_zero] at y0
 go_wp2_with fail
 with_reducible refine (Qnt A B C Q n m k c d e L cq N ls w2 (HH.out.below hb2') hk (HT.out.below hb2') hL).mono ?_
 rintro r w3 ⟨hr,hb3⟩;have hb3':=Zb hb2' hb3;have hX3:=hX2.below hb3 hX2.lt;have hY3:=hY2.below hb3 hY2.lt;clear x0 x1 x2 y0 hX2 hY2 hb2' hb3;obtain ⟨b,rfl,hGG⟩:=hr
 cases b with
 | false =>
  clear hGG
  go_wp2_with fail
  go_ret
  exact ⟨rfl,hb3'⟩
 | true =>
 have hmay:=hGG rfl;clear hGG;have HMAY:=Zh hmay;have hok:=hmay.small.ok;clear hmay;obtain ⟨x0,x1,x2⟩:=hX3.three;have y0:=hY3.cell 0;simp only [List.getElem?_toArray,List.getElem?_cons_zero] at y0
 go_wp2_with fail
 with_reducible refine (Qnp A B C Q n m k c d e L cq N ls w3 (HH.out.below hb3') hok (HT.out.below hb3') HMAY.out.part (Qnm HMAY.out)).mono ?_
 unfold Qof;rintro r w5 ⟨⟨g,o,CB,NC,cl,F,rfl,hNCe,hG5,hF5,hO5,hC5,hA5⟩,hb5⟩;have HNC:=Zh hNCe;have HB5:=Zh (Zb hb3' hb5);have HX5:=Zh (hX3.below hb5 hX3.lt);have HY5:=Zh (hY3.below hb5 hY3.lt);have HG5:=Zh hG5.rd;have HO5:=Zh (hO5.le (Qbd _ _));have HC5:=Zh (show RdI w5 (some ⟨CB,0,none⟩) NC cl from ⟨hC5.1,fun i x hx=>by obtain ⟨b,o,e,h1⟩:=hC5.2 i x hx; exact ⟨b,o,e,Qbd _ _ _ _ h1⟩⟩)
 have HALL:=Zh hA5;clear x0 x1 x2 y0 hX3 hY3 hb5 hb3' hNCe hG5 hF5 hO5 hC5 hA5;obtain ⟨x0,x1,x2⟩:=HX5.out.three;have y0:=HY5.out.cell 0;simp only [List.getElem?_toArray,List.getElem?_cons_zero] at y0;have hS9:=Qnm HMAY.out;have HCQ:=Zh (fun V (hV:Below w.heap.size w V)=>Qkw A B C Q n m k c d e L cq N ls V (HH.out.below hV) hok (HT.out.below hV) HMAY.out.part hS9)
 go_wp2_with fail
 with_reducible refine (HCQ.out w5 HB5.out).mono ?_
 unfold Qrl;rintro r w7 ⟨G,cg,AE,ce,EL,rfl,hG7,hE7,hEl,hEP,hb7⟩;rw [hEl,←HNC.out];have hNC9:NC≤1000000000:=by rw [HNC.out]; exact hS9
 have HB7':=Zh (Zb HB5.out hb7);obtain ⟨w8,hw8⟩:∃ w8,w8=w7.alloc (.cells #[.slice A n c,.slice B m d,.slice C k e,.slice Q L cq,.slice G L cg,.slice AE NC ce] 40):=⟨_,rfl⟩;have hb8:Below w7.heap.size w7 w8:=by rw [hw8]; exact Qah
 have HY8:=Zh (show Blk w8 w7.heap.size 40 #[.slice A n c,.slice B m d,.slice C k e,.slice Q L cq,.slice G L cg,.slice AE NC ce] by rw [hw8]; exact Blk.new _ _ _)
 have HB8:=Zh (Zb HB7'.out hb8);have hb78:=Zb hb7 hb8;have HX8:=Zh (HX5.out.below hb78 HX5.out.lt);have HG8:=Zh (HG5.out.below hb78);have HO8:=Zh (HO5.out.below hb78);have HC7:=Zh (show RdI w8 (some ⟨CB,0,none⟩) NC cl from HC5.out.below hb78)
 have HC7':=Zh (HC7.out);have Hw8:=Zh hw8;clear hG7 hE7 hEl hEP hb7 hb8 hb78 hw8 HCQ HX5 HY5 HG5 HO5 HC5 HB7'
 rcases Qyb N.ar.length NC s t with ⟨kq,hbad1,hbad2⟩ | ⟨hs,ht,hbad1,hbad2⟩
 · have HD1:=Zh (Qgi w8 g o N ls (some ⟨CB,0,none⟩) NC NC NC s t kq 5 HG8.out HO8.out HNC.out hNC9 hbad1)
   have HD2:=Zh (fun V (hV:Below w8.heap.size w8 V) A' c'=>Qgi V g o N ls A' (NC+1) c' NC s t kq 5 (HG8.out.below hV) (HO8.out.below hV) HNC.out hNC9 hbad2);have HCA:=Zh (fun V=>show Calls Tryz.prog 20 #[.agg #[.slice A n c,.slice B m d,.slice C k e],.agg #[.slice A n c,.slice B m d,.slice C k e,.slice Q L cq,.slice G L cg,.slice AE NC ce],.int .i64 NC,.int .i64 s,.int .i64 t] V (Qfb V (some (kq,5))) from by rw [←hbad1,HNA.out]; exact Qdj A B C AE n m k c d e NC NC ce (.slice A n c) (.slice B m d) (.slice C k e) (.slice Q L cq) (.slice G L cg) s t V (by omega))
   have HCB:=Zh (fun V=>show Calls Tryz.prog 20 #[.agg #[.slice A n c,.slice B m d,.slice C k e],.agg #[.slice A n c,.slice B m d,.slice C k e,.slice Q L cq,.slice G L cg,.slice AE NC ce],.int .i64 ((NC:Int)+1),.int .i64 s,.int .i64 t] V (Qfb V (some (kq,5))) from by rw [←hbad2,HNA.out]; exact Qdj A B C AE n m k c d e (NC+1) NC ce (.slice A n c) (.slice B m d) (.slice C k e) (.slice Q L cq) (.slice G L cg) s t V (by omega))
   clear hbad1 hbad2;clear HO8 HG8
   go_wp2_with fail
   rw [←Hw8.out];with_reducible refine HD1.out.mono ?_
   rintro r w9 ⟨⟨vv,rfl,hc9⟩,hb9⟩;have HCH9:=Zh hc9;obtain ⟨tv9,xv9,rfl⟩:=Qbq hc9;clear hc9;have HX9:=Zh (HX8.out.below hb9 HX8.out.lt);have HY9:=Zh (HY8.out.below hb9 HY8.out.lt);have HB9:=Zh (Zb HB8.out hb9);have HB89:=Zh hb9;clear hb9 HX8 HY8 HD1;obtain ⟨x0,x1,x2⟩:=HX9.out.three;have y0:w9.cell? ⟨w7.heap.size,0,none⟩=some (.slice A n c):=by rw [HY9.out.cell]; rfl
   have y1:w9.cell? ⟨w7.heap.size,1,none⟩=some (.slice B m d):=by rw [HY9.out.cell]; rfl
   have y2:w9.cell? ⟨w7.heap.size,2,none⟩=some (.slice C k e):=by rw [HY9.out.cell]; rfl
   have y3:w9.cell? ⟨w7.heap.size,3,none⟩=some (.slice Q L cq):=by rw [HY9.out.cell]; rfl
   have y4:w9.cell? ⟨w7.heap.size,4,none⟩=some (.slice G L cg):=by rw [HY9.out.cell]; rfl
   have y5:w9.cell? ⟨w7.heap.size,5,none⟩=some (.slice AE NC ce):=by rw [HY9.out.cell]; rfl
   go_wp2_with fail
   with_reducible refine (HCA.out w9).mono ?_
   unfold Qfb;rintro r wa ⟨⟨A4,n4,m4,rfl,h4,h4n⟩,hb10⟩;have HR4:=Zh h4;have HCHa:=Zh (HCH9.out.below hb10);clear h4 HCH9;have HX10:=Zh (HX9.out.below hb10 HX9.out.lt);have HY10:=Zh (HY9.out.below hb10 HY9.out.lt);have HBa:=Zh (Zb HB9.out hb10);have HEa:=Zh (Zb HB89.out hb10);clear hb10 HCA x0 x1 x2 y0 y1 y2 y3 y4 y5 HX9 HY9;obtain ⟨W2,hW2⟩:∃ W2,W2=(wa.alloc (.cells #[.slice A4 n4 m4,.int .i64 5] 48)).alloc (.cells #[] 2):=⟨_,rfl⟩;have hbW:Below wa.heap.size wa W2:=by rw [hW2]; exact Qah
   have HWr:=Zh (show Blk W2 wa.heap.size 48 #[.slice A4 n4 m4,.int .i64 5] by rw [hW2]; exact Qba)
   have hz2:W2.heap.size=wa.heap.size+1+1:=by rw [hW2]; simp
   have hown:Own W2 (wa.heap.size+1) 2 1 (some ⟨wa.heap.size+1,0,none⟩) 0 0 []:=by
    have h1:=Own.lit (B:=wa.heap.size+1) (e:=2) (s:=1) (wa.alloc (.cells #[.slice A4 n4 m4,.int .i64 5] 48)) #[] 0 (by simp) (by omega) rfl;rw [hW2]
    simpa using h1
   have hrd:Rds W2 1 (some ⟨CB,0,none⟩) NC (Qag cl):=(HC7.out.below (Zb HEa.out hbW)).rdsI;have hsz:wa.heap.size+1≤W2.heap.size:=by omega
   have HW2:=Zh hW2;clear hW2
   go_wp2_with (at_builtin; rw [←HW2.out]; with_reducible refine Qam rfl (.tmp 58) (.tmp 59) 34 rfl 2 _ 1 8 Qhg Tryz.underlying34 rfl (by omega) rfl rfl hown hrd (Qai _) (by omega) (by omega) hsz ?_)
   intro A5 c5 wb hob hgb hatb;have hbb:Below (wa.heap.size+1) W2 wb:=Bel.grownOwn (Zr _ _) hgb hown hsz;have ho5:Own wb (wa.heap.size+1) 2 1 A5 NC c5 (Qag cl):=by simpa using hob
   have HWr5:=Zh (HWr.out.below hbb (Nat.lt_succ_self _));have HBb:=Zh (show Below wa.heap.size wa wb from hbW.trans (hbb.mono (Nat.le_succ _)))
   have hzb:=hbb.size;clear hbW hown hrd hob hgb hatb HWr HW2 hbb;obtain ⟨W3,hW3⟩:∃ W3,W3=wb.alloc (.cells #[.int .i64 0] 2):=⟨_,rfl⟩;have hbW:Below wb.heap.size wb W3:=by rw [hW3]; exact Qah
   have hown:=ho5.below hbW;have hrd:Rds W3 1 (some ⟨wb.heap.size,0,none⟩) 1 (Qag [0]):=by rw [hW3]; exact (Blk.new wb 2 #[.int .i64 0]).rds rfl
   have hsz3:wa.heap.size+1≤W3.heap.size:=by have:=hbW.size; omega
   have HW3:=Zh hW3;clear hW3 ho5
   go_wp2_with (at_builtin; rw [←HW3.out]; with_reducible refine Qam rfl (.tmp 60) (.tmp 61) 34 rfl 2 _ 1 8 Qhg Tryz.underlying34 rfl (by omega) rfl rfl hown hrd (Qai _) (by omega) (by omega) hsz3 ?_)
   intro A6 c6 wc hoc hgc hatc;have hbc:Below (wa.heap.size+1) W3 wc:=Bel.grownOwn (Zr _ _) hgc hown hsz3;have hbcc:Below (wa.heap.size+1) wb wc:=(hbW.mono (by omega)).trans hbc;have HWr6:=Zh (HWr5.out.below hbcc (Nat.lt_succ_self _));have HBac:=Zh (HBb.out.trans (hbcc.mono (Nat.le_succ _)));have HBc:=Zh (Zb HBa.out HBac.out);have HX11:=Zh (HX10.out.below HBac.out HX10.out.lt);have HY11:=Zh (HY10.out.below HBac.out HY10.out.lt);clear hbW hown hrd hoc hgc hatc HW3 hbc hbcc HWr5 HBb hzb hsz hsz3 hz2 HX10 HY10
   go_wp2_with fail
   with_reducible refine (HD2.out wc (Zb HEa.out HBac.out) A6 c6).mono ?_
   rintro r wd ⟨⟨v6,rfl,hc6⟩,hbd⟩;have HCH6:=Zh hc6;obtain ⟨tv6,xv6,rfl⟩:=Qbq hc6;have HX12:=Zh (HX11.out.below hbd HX11.out.lt);have HY12:=Zh (HY11.out.below hbd HY11.out.lt);have HWr7:=Zh (HWr6.out.below hbd HWr6.out.lt);have HBd:=Zh (Zb HBc.out hbd);have HBcd:=Zh hbd;clear hc6 hbd HD2 HX11 HY11 HWr6;obtain ⟨x0,x1,x2⟩:=HX12.out.three;have y0:wd.cell? ⟨w7.heap.size,0,none⟩=some (.slice A n c):=by rw [HY12.out.cell]; rfl
   have y1:wd.cell? ⟨w7.heap.size,1,none⟩=some (.slice B m d):=by rw [HY12.out.cell]; rfl
   have y2:wd.cell? ⟨w7.heap.size,2,none⟩=some (.slice C k e):=by rw [HY12.out.cell]; rfl
   have y3:wd.cell? ⟨w7.heap.size,3,none⟩=some (.slice Q L cq):=by rw [HY12.out.cell]; rfl
   have y4:wd.cell? ⟨w7.heap.size,4,none⟩=some (.slice G L cg):=by rw [HY12.out.cell]; rfl
   have y5:wd.cell? ⟨w7.heap.size,5,none⟩=some (.slice AE NC ce):=by rw [HY12.out.cell]; rfl
   go_wp2_with fail
   with_reducible refine (HCB.out wd).mono ?_
   unfold Qfb;rintro r we ⟨⟨A7,n7,m7,rfl,h7,h7n⟩,hbe⟩;have HCH7:=Zh (HCH6.out.below hbe);have HR7:=Zh h7;have HX13:=Zh (HX12.out.below hbe HX12.out.lt);have HWr8:=Zh (HWr7.out.below hbe HWr7.out.lt);have HBe:=Zh (Zb HBd.out hbe);have HBde:=Zh hbe;obtain ⟨wf,hwf⟩:∃ wf,wf=we.alloc (.cells #[.slice A7 n7 m7,.int .i64 5] 48):=⟨_,rfl⟩;have hbf:Below we.heap.size we wf:=by rw [hwf]; exact Qah
   have HVr:=Zh (show Blk wf we.heap.size 48 #[.slice A7 n7 m7,.int .i64 5] by rw [hwf]; exact Blk.new _ _ _)
   have HBef:=Zh hbf;have HX14:=Zh (HX13.out.below hbf HX13.out.lt);have HWr9:=Zh (HWr8.out.below hbf HWr8.out.lt);have HBf:=Zh (Zb HBe.out hbf);have HCH8:=Zh (HCH7.out.below hbf);have HR8:=Zh (HR7.out.below hbf);have Hwf:=Zh hwf;obtain ⟨u0,u1,_,_⟩:=HWr8.out.two;have ul:=HWr8.out.lt;clear h7 hbe hwf hbf HCH6 HCH7 HR7 HX12 HX13 HY12 HWr7 HWr8 HCB x0 x1 x2 y0 y1 y2 y3 y4 y5
   go_wp2_with fail
   rw [←Hwf.out];clear u0 u1 ul Hwf;obtain ⟨u0,u1,_,_⟩:=HWr9.out.two;obtain ⟨v0,v1,_,_⟩:=HVr.out.two;have hbaf:=Zb (Zb (Zb HBac.out HBcd.out) HBde.out) HBef.out;with_reducible refine (Qhs (.iface tv9 xv9) A4 n4 m4 [((⟨#[97,115,107]⟩:ByteArray),kq)] 5 wf (HCHa.out.below hbaf) (HR4.out.below hbaf) (by omega) (Zc HBf.out (Zn _) HG.out) (by omega)).mono ?_
   rintro r wg ⟨rfl,hbg⟩;clear hbaf;clear u0 u1 v0 v1;obtain ⟨v0,v1,_,_⟩:=(HVr.out.below hbg HVr.out.lt).two
   go_wp2_with fail
   with_reducible refine (Qhs (.iface tv6 xv6) A7 n7 m7 [((⟨#[97,115,107]⟩:ByteArray),kq)] 5 wg (HCH8.out.below hbg) (HR8.out.below hbg) (by omega) (Zc (Zb HBf.out hbg) (Zn _) HG.out) (by omega)).mono ?_
   rintro r wh ⟨rfl,hbh⟩;have HBh:=Zh (Zb (Zb HBf.out hbg) hbh);have HBfh:=Zh (Zb hbg hbh);have HX15:=Zh (HX14.out.below HBfh.out HX14.out.lt);have HWra:=Zh (HWr9.out.below HBfh.out HWr9.out.lt);clear hbg hbh HX14 HWr9 v0 v1 HVr HR8 HCH8;obtain ⟨u0,u1,_,_⟩:=HWra.out.two;obtain ⟨x0,x1,x2⟩:=HX15.out.three
   go_wp2_with fail
   go_ret
   exact ⟨rfl,HBh.out⟩
 · obtain ⟨sn,rfl⟩:∃ sn:Nat,s=(sn:Int):=⟨s.toNat,by omega⟩
   obtain ⟨tn,rfl⟩:∃ tn:Nat,t=(tn:Int):=⟨t.toNat,by omega⟩;obtain ⟨xs,hxs⟩:∃ xs,N.ar[sn]?=some xs:=⟨_,Zg (by omega)⟩;obtain ⟨xt,hxt⟩:∃ xt,N.ar[tn]?=some xt:=⟨_,Zg (by omega)⟩;have hsm:sn<m:=by have:=HNA.out; omega
   have htm:tn<m:=by have:=HNA.out; omega
   have HD1:=Zh (Qir w8 g o N ls (some ⟨CB,0,none⟩) NC NC cl sn tn xs xt HG8.out HO8.out HC7.out hok HMAY.out.part HALL.out ⟨Zn _,by omega⟩ hS9 hxs hxt);have HD2:=Zh (fun V (hV:Below w8.heap.size w8 V) A' c'=>Qgi V g o N ls A' (NC+1) c' NC sn tn 2 1 (HG8.out.below hV) (HO8.out.below hV) HNC.out hNC9 hbad2);have HCA:=Zh (fun V=>show Calls Tryz.prog 20 #[.agg #[.slice A n c,.slice B m d,.slice C k e],.agg #[.slice A n c,.slice B m d,.slice C k e,.slice Q L cq,.slice G L cg,.slice AE NC ce],.int .i64 NC,.int .i64 sn,.int .i64 tn] V (Qfb V none) from by rw [←hbad1,HNA.out]; exact Qdj A B C AE n m k c d e NC NC ce (.slice A n c) (.slice B m d) (.slice C k e) (.slice Q L cq) (.slice G L cg) sn tn V (by omega))
   have HCB:=Zh (fun V=>show Calls Tryz.prog 20 #[.agg #[.slice A n c,.slice B m d,.slice C k e],.agg #[.slice A n c,.slice B m d,.slice C k e,.slice Q L cq,.slice G L cg,.slice AE NC ce],.int .i64 ((NC:Int)+1),.int .i64 sn,.int .i64 tn] V (Qfb V (some (2,1))) from by rw [←hbad2,HNA.out]; exact Qdj A B C AE n m k c d e (NC+1) NC ce (.slice A n c) (.slice B m d) (.slice C k e) (.slice Q L cq) (.slice G L cg) sn tn V (by omega))
   have HOF:=Zh (fun V (hV:Below w.heap.size w V)=>Quy A B C n m k c d e N V (HH.out.below hV) hok);have HDI:=Zh (fun V NX TX cx ct (hV:Below w.heap.size w V) hnx htx=>Qtr A B C NX TX n m k c d e cx ct sn tn N V (HH.out.below hV) hok hnx htx hsm htm);clear hbad1 hbad2 hs ht hxs hxt hsm htm;clear HO8 HG8
   go_wp2_with fail
   rw [←Hw8.out];with_reducible refine HD1.out.mono ?_
   rintro r w9 ⟨⟨vv,rfl,hv9⟩,hb9⟩;have HV9:=Zh hv9;clear hv9;have HX9:=Zh (HX8.out.below hb9 HX8.out.lt);have HY9:=Zh (HY8.out.below hb9 HY8.out.lt);have HB9:=Zh (Zb HB8.out hb9);have HB89:=Zh hb9;clear hb9 HX8 HY8 HD1;obtain ⟨x0,x1,x2⟩:=HX9.out.three;have y0:w9.cell? ⟨w7.heap.size,0,none⟩=some (.slice A n c):=by rw [HY9.out.cell]; rfl
   have y1:w9.cell? ⟨w7.heap.size,1,none⟩=some (.slice B m d):=by rw [HY9.out.cell]; rfl
   have y2:w9.cell? ⟨w7.heap.size,2,none⟩=some (.slice C k e):=by rw [HY9.out.cell]; rfl
   have y3:w9.cell? ⟨w7.heap.size,3,none⟩=some (.slice Q L cq):=by rw [HY9.out.cell]; rfl
   have y4:w9.cell? ⟨w7.heap.size,4,none⟩=some (.slice G L cg):=by rw [HY9.out.cell]; rfl
   have y5:w9.cell? ⟨w7.heap.size,5,none⟩=some (.slice AE NC ce):=by rw [HY9.out.cell]; rfl
   go_wp2_with fail
   with_reducible refine (HCA.out w9).mono ?_
   unfold Qfb;rintro r wa ⟨rfl,hb10⟩;have HX10:=Zh (HX9.out.below hb10 HX9.out.lt);have HY10:=Zh (HY9.out.below hb10 HY9.out.lt);have HBa:=Zh (Zb HB9.out hb10);have HEa:=Zh (Zb HB89.out hb10);clear hb10 HCA x0 x1 x2 y0 y1 y2 y3 y4 y5 HX9 HY9;obtain ⟨W2,hW2⟩:∃ W2,W2=(wa.alloc (.cells #[.slice none 0 0,.int .i64 0] 48)).alloc (.cells #[] 2):=⟨_,rfl⟩;have hbW:Below wa.heap.size wa W2:=by rw [hW2]; exact Qah
   have HWr:=Zh (show Blk W2 wa.heap.size 48 #[.slice none 0 0,.int .i64 0] by rw [hW2]; exact Qba)
   have hz2:W2.heap.size=wa.heap.size+1+1:=by rw [hW2]; simp
   have hown:Own W2 (wa.heap.size+1) 2 1 (some ⟨wa.heap.size+1,0,none⟩) 0 0 []:=by
    have h1:=Own.lit (B:=wa.heap.size+1) (e:=2) (s:=1) (wa.alloc (.cells #[.slice none 0 0,.int .i64 0] 48)) #[] 0 (by simp) (by omega) rfl;rw [hW2]
    simpa using h1
   have hrd:Rds W2 1 (some ⟨CB,0,none⟩) NC (Qag cl):=(HC7.out.below (Zb HEa.out hbW)).rdsI;have hsz:wa.heap.size+1≤W2.heap.size:=by omega
   have HW2:=Zh hW2;clear hW2
   go_wp2_with (at_builtin; rw [←HW2.out]; with_reducible refine Qam rfl (.tmp 58) (.tmp 59) 34 rfl 2 _ 1 8 Qhg Tryz.underlying34 rfl (by omega) rfl rfl hown hrd (Qai _) (by omega) (by omega) hsz ?_)
   intro A5 c5 wb hob hgb hatb;have hbb:Below (wa.heap.size+1) W2 wb:=Bel.grownOwn (Zr _ _) hgb hown hsz;have ho5:Own wb (wa.heap.size+1) 2 1 A5 NC c5 (Qag cl):=by simpa using hob
   have HWr5:=Zh (HWr.out.below hbb (Nat.lt_succ_self _));have HBb:=Zh (show Below wa.heap.size wa wb from hbW.trans (hbb.mono (Nat.le_succ _)))
   have hzb:=hbb.size;clear hbW hown hrd hob hgb hatb HWr HW2 hbb;obtain ⟨W3,hW3⟩:∃ W3,W3=wb.alloc (.cells #[.int .i64 0] 2):=⟨_,rfl⟩;have hbW:Below wb.heap.size wb W3:=by rw [hW3]; exact Qah
   have hown:=ho5.below hbW;have hrd:Rds W3 1 (some ⟨wb.heap.size,0,none⟩) 1 (Qag [0]):=by rw [hW3]; exact (Blk.new wb 2 #[.int .i64 0]).rds rfl
   have hsz3:wa.heap.size+1≤W3.heap.size:=by have:=hbW.size; omega
   have HW3:=Zh hW3;clear hW3 ho5
   go_wp2_with (at_builtin; rw [←HW3.out]; with_reducible refine Qam rfl (.tmp 60) (.tmp 61) 34 rfl 2 _ 1 8 Qhg Tryz.underlying34 rfl (by omega) rfl rfl hown hrd (Qai _) (by omega) (by omega) hsz3 ?_)
   intro A6 c6 wc hoc hgc hatc;have hbc:Below (wa.heap.size+1) W3 wc:=Bel.grownOwn (Zr _ _) hgc hown hsz3;have hbcc:Below (wa.heap.size+1) wb wc:=(hbW.mono (by omega)).trans hbc;have HWr6:=Zh (HWr5.out.below hbcc (Nat.lt_succ_self _));have HBac:=Zh (HBb.out.trans (hbcc.mono (Nat.le_succ _)));have HBc:=Zh (Zb HBa.out HBac.out);have HX11:=Zh (HX10.out.below HBac.out HX10.out.lt);have HY11:=Zh (HY10.out.below HBac.out HY10.out.lt);clear hbW hown hrd hoc hgc hatc HW3 hbc hbcc HWr5 HBb hzb hsz hsz3 hz2 HX10 HY10
   go_wp2_with fail
   with_reducible refine (HD2.out wc (Zb HEa.out HBac.out) A6 c6).mono ?_
   rintro r wd ⟨⟨v6,rfl,hc6⟩,hbd⟩;have HCH6:=Zh hc6;obtain ⟨tv6,xv6,rfl⟩:=Qbq hc6;have HX12:=Zh (HX11.out.below hbd HX11.out.lt);have HY12:=Zh (HY11.out.below hbd HY11.out.lt);have HWr7:=Zh (HWr6.out.below hbd HWr6.out.lt);have HBd:=Zh (Zb HBc.out hbd);have HBcd:=Zh hbd;clear hc6 hbd HD2 HX11 HY11 HWr6;obtain ⟨x0,x1,x2⟩:=HX12.out.three;have y0:wd.cell? ⟨w7.heap.size,0,none⟩=some (.slice A n c):=by rw [HY12.out.cell]; rfl
   have y1:wd.cell? ⟨w7.heap.size,1,none⟩=some (.slice B m d):=by rw [HY12.out.cell]; rfl
   have y2:wd.cell? ⟨w7.heap.size,2,none⟩=some (.slice C k e):=by rw [HY12.out.cell]; rfl
   have y3:wd.cell? ⟨w7.heap.size,3,none⟩=some (.slice Q L cq):=by rw [HY12.out.cell]; rfl
   have y4:wd.cell? ⟨w7.heap.size,4,none⟩=some (.slice G L cg):=by rw [HY12.out.cell]; rfl
   have y5:wd.cell? ⟨w7.heap.size,5,none⟩=some (.slice AE NC ce):=by rw [HY12.out.cell]; rfl
   go_wp2_with fail
   with_reducible refine (HCB.out wd).mono ?_
   unfold Qfb;rintro r we ⟨⟨A7,n7,m7,rfl,h7,h7n⟩,hbe⟩;have HCH7:=Zh (HCH6.out.below hbe);have HR7:=Zh h7;have HX13:=Zh (HX12.out.below hbe HX12.out.lt);have HWr8:=Zh (HWr7.out.below hbe HWr7.out.lt);have HBe:=Zh (Zb HBd.out hbe);have HBde:=Zh hbe;obtain ⟨wf,hwf⟩:∃ wf,wf=we.alloc (.cells #[.slice A7 n7 m7,.int .i64 1] 48):=⟨_,rfl⟩;have hbf:Below we.heap.size we wf:=by rw [hwf]; exact Qah
   have HVr:=Zh (show Blk wf we.heap.size 48 #[.slice A7 n7 m7,.int .i64 1] by rw [hwf]; exact Blk.new _ _ _)
   have HBef:=Zh hbf;have HX14:=Zh (HX13.out.below hbf HX13.out.lt);have HWr9:=Zh (HWr8.out.below hbf HWr8.out.lt);have HBf:=Zh (Zb HBe.out hbf);have HCH8:=Zh (HCH7.out.below hbf);have HR8:=Zh (HR7.out.below hbf);have Hwf:=Zh hwf;obtain ⟨u0,u1,_,_⟩:=HWr8.out.two;have ul:=HWr8.out.lt;clear h7 hbe hwf hbf HCH6 HCH7 HR7 HX12 HX13 HY12 HWr7 HWr8 HCB x0 x1 x2 y0 y1 y2 y3 y4 y5
   go_wp2_with fail
   rw [←Hwf.out];clear u0 u1 ul Hwf;obtain ⟨u0,u1,_,_⟩:=HWr9.out.two;obtain ⟨v0,v1,_,_⟩:=HVr.out.two;with_reducible refine (Qxi none 0 0 wf).mono ?_
   rintro r wg ⟨rfl,hbg⟩;clear u0 u1 v0 v1;obtain ⟨v0,v1,_,_⟩:=(HVr.out.below hbg HVr.out.lt).two
   go_wp2_with fail
   with_reducible refine (Qhs (.iface tv6 xv6) A7 n7 m7 [((⟨#[97,115,107]⟩:ByteArray),2)] 1 wg (HCH8.out.below hbg) (HR8.out.below hbg) (by omega) (Zc (Zb HBf.out hbg) (Zn _) HG.out) (by omega)).mono ?_
   rintro r wh ⟨rfl,hbh⟩;have HBh:=Zh (Zb (Zb HBf.out hbg) hbh);have HBfh:=Zh (Zb hbg hbh);have HX15:=Zh (HX14.out.below HBfh.out HX14.out.lt);have HWra:=Zh (HWr9.out.below HBfh.out HWr9.out.lt);clear hbg hbh HX14 HWr9 v0 v1 HVr HR8 HCH8;obtain ⟨u0,u1,_,_⟩:=HWra.out.two;obtain ⟨x0,x1,x2⟩:=HX15.out.three
   go_wp2_with fail
   with_reducible refine (HOF.out wh HBh.out).mono ?_
   rintro r wi ⟨NX,cx,TX,ct,rfl,hnx,htx,hbi⟩;have HBi:=Zh (Zb HBh.out hbi);have HDIi:=Zh (HDI.out wi NX TX cx ct HBi.out hnx htx);clear hnx htx hbi HDI
   go_wp2_with fail
   with_reducible refine HDIi.out.mono ?_
   rintro r wj ⟨⟨vj,rfl,hvj⟩,hbj⟩;obtain rfl:=HV9.out.uniq hvj;have HBj:=Zh (Zb HBi.out hbj);clear hbj
   go_wp2_with fail
   go_ret
   exact ⟨Qbe (by simp),HBj.out⟩
end Go.Proofs.YteaoiabikjnkeaaGreatDoor
namespace Go.Proofs.YteaoiabikjnkeaaGreatDoor
open Go.ChangeShapes Go.WideShapes Go.ChangeAt Go.RowKit Go.Deep
namespace AskDistDone
set_option maxRecDepth 100000 in
theorem lifted (os:Os)(started:os.Started)(H:Type)(enc:TypeId×Value→H) :
 ReturnsInHanded {} Tryz.checked os 3 .any (fun w args => (Rows.askDistSpec.pre enc Tryz.prog Tryz.f3 [] false w args ∧ laidMetH Tryz.prog [("errors.errorType", Rows.laid_errors_errorType)] w) ∧ sizedMet enc Tryz.prog Tryz.f3 (OpenSpec.ofChange Rows.askDistSpec) false w args)
  (Rows.askDistSpec.post enc Tryz.prog Tryz.f3 false true false false):=by
 refine returnsInHanded_of_change_and (C := Tryz.checked) (X := fun w _ => laidMetH Tryz.prog [("errors.errorType", Rows.laid_errors_errorType)] w) (fun _ _ _ hh h => h.of_heap hh) own_ started (by kernel_rfl) Tryz.func3
  (ChangeSpec.witness_at (enc := enc) (C := Tryz.checked) (os := os) (X := fun w _ => laidMetH Tryz.prog [("errors.errorType", Rows.laid_errors_errorType)] w) false (Qkm os) #[.agg #[.slice none 0 0, .slice none 0 0, .slice none 0 0], .agg #[.slice none 0 0], .int .i64 0, .int .i64 0] 8 rfl (by kernel_rfl) (by kernel_rfl) (by kernel_rfl) (by kernel_rfl) (by kernel_rfl) (Qid os _)) ?_
 intro W base args ds gs before hval0 hW _ hsz0 hL _;clear hsz0;have hval:∀ (j:Nat) t v,Tryz.f3.params[j]?=some t→args[j]?=some v→Value.okWide Tryz.prog W .any base t v:=hval0;have hW':=hW;obtain ⟨p,q,hA0,hV,rfl,hfz,hnd⟩:=hW;have hA:DataW.TrodAll enc Tryz.prog W 0 (fun _=>true) true Tryz.f3.params.toList args.toList ds p:=hA0;rw [Tryz.params3] at hA hval;obtain ⟨v0,vs0,d0,ds0,p0,q0,hargs,rfl,rfl,h0,r0⟩:=trodAll_cons hA;obtain ⟨v1,vs1,d1,ds1,p1,q1,rfl,rfl,rfl,h1,r1⟩:=trodAll_cons r0;obtain ⟨v2,vs2,d2,ds2,p2,q2,rfl,rfl,rfl,h2,r2⟩:=trodAll_cons r1;obtain ⟨v3,vs3,d3,ds3,p3,q3,rfl,rfl,rfl,h3,r3⟩:=trodAll_cons r2;obtain ⟨rfl,rfl,rfl⟩:=trodAll_nil r3;obtain rfl:args=#[v0,v1,v2,v3]:=by cases args; simp_all
 obtain ⟨rfl,rfl⟩:=trodVars_none hV;obtain ⟨cs0,rfl,_⟩:=okWide_struct Tryz.underlying26 (hval 0 26 v0 rfl rfl);have k0:=h0;have lt0:∀ x∈p0,x.block<W.heap.size:=by obtain ⟨m,hm⟩:=k0; exact DataW.trod_lt m _ _ _ hm
 obtain ⟨A,B,C,n,m,k,c,d,e,N,hcs0,hnet,hk⟩:∃ (A B C:Option Addr) (n m k c d e:Nat) (N:Qao),cs0=#[.slice A n c,.slice B m d,.slice C k e]∧Qbv W A B C n m k N∧k≤9223372036854775807:=by
  obtain ⟨fuel,hf⟩:=h0;obtain ⟨A,B,C,n,m,k,c,d,e,N,e1,e2,e3⟩:=Qsl hf;exact ⟨A,B,C,n,m,k,c,d,e,N,Array.toList_inj.1 e1,e2,e3⟩
 subst hcs0;obtain ⟨cs1,rfl,_⟩:=okWide_struct Tryz.underlying29 (hval 1 29 v1 rfl rfl);have k1:=h1;have lt1:∀ x∈p1,x.block<W.heap.size:=by obtain ⟨m,hm⟩:=k1; exact DataW.trod_lt m _ _ _ hm
 obtain ⟨Q,L,cq,ls,hcs1,hpart,hLc⟩:∃ (Q:Option Addr) (L cq:Nat) (ls:List (List Int)),cs1=#[.slice Q L cq]∧RdT W Q L ls∧L≤9223372036854775807:=by
  obtain ⟨fuel,hf⟩:=h1;obtain ⟨Q,L,cq,ls,e1,e2,e3,e4⟩:=Qog hf;exact ⟨Q,L,cq,ls,Array.toList_inj.1 e1,e2,by omega⟩
 subst hcs1;obtain ⟨a2,rfl,rfl,rfl,w2⟩:=open_int Tryz.underlying3 (hval 2 3 v2 rfl rfl) h2;obtain ⟨a3,rfl,rfl,rfl,w3⟩:=open_int Tryz.underlying3 (hval 3 3 v3 rfl rfl) h3;clear hA0 hval0;have hg:=Qgw hL;refine (Qom A B C Q n m k c d e L cq N ls a2 a3 W hnet hk hpart hLc hg).mono fun e W' ⟨he,bel⟩=>?_
 subst he;exact ⟨_,rfl,_,_,_,[],_,[],hW',trodAll_mk1 (shut_bool Tryz.underlying4 _),(trodAll_cons_mk (Below.trod Qih (by kernel_rfl) (of_decide_eq_true (by kernel_rfl)) k0 bel lt0) (trodAll_cons_mk (Below.trod Qih (by kernel_rfl) (of_decide_eq_true (by kernel_rfl)) k1 bel lt1) (trodAll_cons_mk (shut_int Tryz.underlying3 w2) (trodAll_cons_mk (shut_int Tryz.underlying3 w3) trodAll_mk0)))),rfl,bel.frame _,fun h=>by cases h⟩
theorem jf0:Rows.askDistRow.wf (OpenSpec.ofChange Rows.askDistSpec)=true:=by kernel_rfl
theorem jf1:laidOutB Tryz.prog=true:=by kernel_rfl
theorem jf2:mapsRowed Tryz.prog=true:=by kernel_rfl
theorem jf3:Tryz.f3.params.all (Tryz.prog.readableRec ·)=true:=by kernel_rfl
theorem jf4:namedTie Tryz.prog Rows.askDistRow.named Rows.askDistSpec.vars=true:=by kernel_rfl
theorem jf5:(Rows.askDistRow.stops == [])=true:=by kernel_rfl
theorem jf6:(Tryz.prog.stops == [])=true:=by kernel_rfl
theorem jf7:(Rows.askDistRow.knobs == [])=true:=by kernel_rfl
theorem jf8:(Tryz.prog.stopKnobs == [])=true:=by kernel_rfl
theorem jf9:(Rows.askDistRow.inPlace == Tryz.prog.inPlace 3)=true:=by kernel_rfl
theorem jf10:(Rows.askDistRow.unfollowed == Tryz.prog.unfollowed 3)=true:=by kernel_rfl
theorem jf11:(Rows.askDistRow.recurses == Tryz.prog.recurses 3)=true:=by kernel_rfl
theorem jf12:(Rows.askDistRow.named == Tryz.prog.varsNamed 3)=true:=by kernel_rfl
theorem jf13:(Rows.askDistRow.maps == (Tryz.f3.params.toList ++Rows.askDistSpec.plain.varTypes Tryz.prog).any (Tryz.prog.mapsRec ·))=true:=by kernel_rfl
theorem jf14:(Rows.askDistRow.ifaces == (Tryz.f3.params.toList ++Rows.askDistSpec.plain.varTypes Tryz.prog).any (Tryz.prog.ifacesRec ·))=true:=by kernel_rfl
theorem jf15:(Rows.askDistRow.mapsOut == Tryz.prog.mapsAmong Tryz.f3.resultTypes.toList)=true:=by kernel_rfl
theorem jf16:(Rows.askDistRow.loops == (Tryz.f3.params.toList ++Rows.askDistSpec.plain.varTypes Tryz.prog).any (Tryz.prog.loopsFrom ·))=true:=by kernel_rfl
theorem jf17:(Rows.askDistRow.wideKeys == (Tryz.f3.params.toList ++Rows.askDistSpec.plain.varTypes Tryz.prog ++Tryz.f3.resultTypes.toList).any (Tryz.prog.wideKeysFrom ·))=true:=by kernel_rfl
theorem jf18:Rows.askDistSpec.vars.all (Tryz.prog.varReadable ·)=true:=by kernel_rfl
theorem jf19:Tryz.f3.resultTypes.all (fun t=>Tryz.prog.readableRec t && decide (t<Tryz.prog.types.size))=true:=by kernel_rfl
theorem jf20:(Rows.askDistRow.ifacesOut == Tryz.f3.resultTypes.toList.any (Tryz.prog.ifacesRec ·))=true:=by kernel_rfl
theorem jf21:(Rows.askDistRow.loopsOut == Tryz.f3.resultTypes.toList.any (Tryz.prog.loopsFrom ·))=true:=by kernel_rfl
theorem jf22:(Rows.askDistRow.plainKeys == Tryz.prog.plainKeys)=true:=by kernel_rfl
theorem jf23:Rows.askDistRow.shortTexts.isNone=true:=by kernel_rfl
theorem jf24:Tryz.prog.stopsHeard=true:=by kernel_rfl
theorem jf25:Tryz.prog.mayEnter=true:=by kernel_rfl
theorem jf26:(Rows.askDistRow.lifted == Tryz.prog.liftsFinal)=true:=by kernel_rfl
theorem jf27:(Tryz.prog.make == some Rows.askDistRow.make)=true:=by kernel_rfl
theorem jf28:(Rows.askDistRow.kinds == (if Rows.askDistRow.domain.isEmpty then [] else Tryz.f3.params.toList.map fun t=>match Tryz.prog.underlying t with | some (.int k)=>some k | _=>none))=true:=by kernel_rfl
theorem jf29:(Rows.askDistRow.pinned == Rows.askDistRow.pinnedBy)=true:=by kernel_rfl
theorem jf30:(Rows.askDistRow.veiled == (Tryz.f3.params.toList ++Rows.askDistSpec.plain.varTypes Tryz.prog ++Tryz.f3.resultTypes.toList).any (Tryz.prog.veiledRec ·))=true:=by kernel_rfl
theorem jf31:Rows.askDistRow.veiledFits Tryz.prog Tryz.f3.params.toList (Tryz.f3.params.toList ++Rows.askDistSpec.plain.varTypes Tryz.prog ++Tryz.f3.resultTypes.toList)=true:=by kernel_rfl
set_option maxRecDepth 100000 in
theorem closed:joinedFacts Tryz.prog 3 Tryz.f3 Rows.askDistSpec Rows.askDistRow=true:=by
 simp only [joinedFacts,Bool.and_eq_true];exact ⟨⟨⟨⟨⟨⟨⟨⟨⟨⟨⟨⟨⟨⟨⟨⟨⟨⟨⟨⟨⟨⟨⟨⟨⟨⟨⟨⟨⟨⟨⟨jf0,jf1⟩,jf2⟩,jf3⟩,jf4⟩,jf5⟩,jf6⟩,jf7⟩,jf8⟩,jf9⟩,jf10⟩,jf11⟩,jf12⟩,jf13⟩,jf14⟩,jf15⟩,jf16⟩,jf17⟩,jf18⟩,jf19⟩,jf20⟩,jf21⟩,jf22⟩,jf23⟩,jf24⟩,jf25⟩,jf26⟩,jf27⟩,jf28⟩,jf29⟩,jf30⟩,jf31⟩
theorem named : Tryz.prog.funcNamed "roundsman/roundsmanlaw21.AskDist" = some 3 := by kernel_rfl
theorem inst:Tryz.f3.isInstance Tryz.prog Rows.askDistRow.origin Rows.askDistRow.targs:=of_decide_eq_true (by kernel_rfl)
theorem wrap:Tryz.f3.isWrapper Tryz.prog Rows.askDistRow.wrapper Rows.askDistRow.mainSum:=by unfold Func.isWrapper; rw [if_neg (of_decide_eq_false (by kernel_rfl))]; exact ⟨rfl,rfl⟩
theorem over:Rows.AskDistSaid :=
 OpenClaim.holds_of_wide 3 Tryz.f3 rfl rfl rfl rfl rfl rfl rfl ⟨rfl,rfl,rfl,rfl,rfl⟩ rfl rfl rfl rfl rfl named Tryz.func3 closed inst wrap
  (fun os started H enc _=>lifted os started H enc)
theorem byText:Rows.askDistRow.wfByText (OpenSpec.ofChange Rows.askDistSpec)=true:=by kernel_rfl
theorem mainIs : Tryz.prog.mainIs = some (((true, "50a2035def9af4675d1cabe8bb01769292a43cd0b3e8ccc53597c94666fbfc99") : Bool × String).1, ((true, "50a2035def9af4675d1cabe8bb01769292a43cd0b3e8ccc53597c94666fbfc99") : Bool × String).2.toList) := by kernel_rfl
theorem looksL:true=Tryz.prog.looks []:=by kernel_rfl
theorem goes:false=Rows.askDistRow.goesBy Tryz.prog:=by kernel_rfl
theorem proved:Rows.AskDistCardSaid :=
 Claim7.holds_tied_plain_at .later [] [.handle] true (true, "50a2035def9af4675d1cabe8bb01769292a43cd0b3e8ccc53597c94666fbfc99") true
  over (fun _ h=>by cases h) byText (fun _ h=>by cases h) askDist_row_tie rfl ⟨rfl,rfl⟩ mainIs rfl
  (fun f fn hf hfn=>by
   obtain rfl:f=3:=Option.some.inj (named.symm.trans hf) |>.symm
   obtain rfl:fn=Tryz.f3:=(Option.some.inj (Tryz.func3.symm.trans hfn)).symm
   exact ⟨looksL,fun j t ht=>by
    rw [Tryz.params3] at ht
    rcases j with _ | _ | _ | _ | j
    · obtain rfl:t=26:=by simpa using ht.symm
      exact (show Tryz.prog.wantsStandIn 26=false by kernel_rfl)
    · obtain rfl:t=29:=by simpa using ht.symm
      exact (show Tryz.prog.wantsStandIn 29=false by kernel_rfl)
    · obtain rfl:t=3:=by simpa using ht.symm
      exact (show Tryz.prog.wantsStandIn 3=false by kernel_rfl)
    · obtain rfl:t=3:=by simpa using ht.symm
      exact (show Tryz.prog.wantsStandIn 3=false by kernel_rfl)
    · simp at ht⟩)
  goes
#print axioms proved
end AskDistDone
end Go.Proofs.YteaoiabikjnkeaaGreatDoor
