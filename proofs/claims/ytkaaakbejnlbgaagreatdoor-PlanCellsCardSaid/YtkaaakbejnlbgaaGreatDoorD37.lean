/- For every input PlanCells returns true, and its arguments read afterwards as before; package errors' variable errorType tied to the program's text. No condition. -/
/- Qbl of the proof: LwC, LwCP. -/
import Derived.Test.YtkaaakbejnlbgaaGreatDoorD33
import Derived.Test.YtkaaakbejnlbgaaGreatDoorD34
set_option maxHeartbeats 4000000
set_option maxRecDepth 100000
namespace Go.Proofs.YtkaaakbejnlbgaaGreatDoor
open Go.RowKit Go.Extern.Stop Go.Stop Go.Extern Go.Proofs.Tryz
attribute [local go_sem ↓] Go.wp_at_zero Go.wp_at_succ
def Ray (n:Nat):Iz:=List.replicate n 0
theorem Qlg (n:Nat):Qbt n [Ray n]:=by
 have h0:∀ x∈Ray n,x=0∧n≠0:=fun x hx=>⟨(List.mem_replicate.1 hx).2,(List.mem_replicate.1 hx).1⟩
 refine ⟨Sm,Sm,fun l hl=>?_,fun i p l hp hl=>?_⟩;{rw [List.mem_singleton.1 hl];refine ⟨List.length_replicate ..,fun x hx=>by have:=h0 x hx;omega,fun x hx=>by have:=h0 x hx;omega,fun c hc=>?_⟩;by_cases hn:n=0;{subst hn;have hm:Qay (Ray 0)=0:=rfl;omega};(have hm:Qay (Ray n)≤1:=Qcr (fun x hx=>by have:=h0 x hx;omega) Oo;obtain rfl:c=0:=Oo);exact List.mem_replicate.2 ⟨hn,rfl⟩};{have:=(Zs hl).1;simp at this}
theorem zeros_rd {w:World}{g n:Nat} (h:Blk w g 3 (Qbg (.int .i64 0) n)):RdI w (some ⟨g,0,none⟩) n (Ray n):=by
 have h1:Rds w 1 (some ⟨g,0,none⟩) n (Qae (Ray n)):=by
  have:=h.rds (m:=n) (s:=1) (by simp [Qbg]);have e:(Qbg (Value.int .i64 0) n).toList=Qae (Ray n):=by simp [Qbg,Qae,Ray]
  rwa [e] at this
 exact h1.rdI
theorem Qpw (A B C Q:Oz)(n m k c d e L cq:Nat)(N:Qak) (ls:Lz) (dep cap lim:Int) (JA:Oz) (jn jc:Nat) (st:Pz) (w:World) (h:Qcp w A B C n m k N) (hk:k≤9223372036854775807) (hq:RdT w Q L ls) (hL:L≤9223372036854775807) (hj:RdP w JA jn st) (hg:w.cell? ⟨0,0,none⟩=some Qpm) :
 Calls prog 7 #[.agg #[.slice A n c,.slice B m d,.slice C k e],.agg #[.slice Q L cq],Qia dep cap lim JA jn jc] w fun r w'=>r=.returned (.bool true)∧Bw w w':=by
 have HH:=Zh h;have HT:=Zh hq;have HJ:=Zh hj;have HG:=Zh hg;have HNA:=Zh (show N.ar.length=m from h.2.1.1);have HNV:=Zh (show N.vs.length=n from h.1.1);clear h hq hj hg;go_enter func7,ntmps7
 go_wp2_with fail
 (refine Qab ?_;intro w1 hw1);have hb1:Bw w w1:=by rw [hw1];exact Qag
 have hX:Blk w1 w.heap.size 26 #[.slice A n c,.slice B m d,.slice C k e]:=by rw [hw1];exact Qbi
 have hY:Blk w1 (w.heap.size+1) 29 #[.slice Q L cq]:=by rw [hw1];exact Qbi
 have hJ:Blk w1 (w.heap.size+1+1) 32 #[.int .i64 dep,.int .i64 cap,.int .i64 lim,.slice JA jn jc]:=by rw [hw1];exact Qbi
 clear hw1;with_reducible refine (Qib w1 (Zc hb1 (Zn _) HG.o)).mono ?_
 rintro r w2 ⟨rfl,hb2⟩;have hX2:=hX.below hb2 hX.lt;have hY2:=hY.below hb2 hY.lt;have hJ2:=hJ.below hb2 hJ.lt;have hb2':=Zb hb1 hb2;clear hX hY hJ hb1 hb2;obtain ⟨x0,x1,x2⟩:=hX2.three;have y0:=hY2.cell 0;simp only [Yo,Yn] at y0;go_wp2_with fail
 with_reducible refine (Quw A B C Q n m k c d e L cq N ls w2 (HH.o.below hb2') hk (HT.o.below hb2') hL).mono ?_
 rintro r w3 ⟨hr,hb3⟩;have HB3:=Zh (Zb hb2' hb3);have HX3:=Zh (hX2.below hb3 hX2.lt);have HY3:=Zh (hY2.below hb3 hY2.lt);have HJ3:=Zh (hJ2.below hb3 hJ2.lt);clear x0 x1 x2 y0 hX2 hY2 hJ2 hb2' hb3;obtain ⟨b,rfl,hGG⟩:=hr
 cases b with
 | false =>
  clear hGG;go_wp2_with fail
  go_ret;exact ⟨rfl,HB3.o⟩
 | true =>
 have HMAY:=Zh (hGG rfl);have hok:=(hGG rfl).small.ok;clear hGG;have j3:w3.cell? ⟨w.heap.size+1+1,3,none⟩=some (.slice JA jn jc):=Zq HJ3.o;by_cases h6:6<jn
 {(have i6:6<(jn:Int):=Oo);exact Kcr};have i6:¬6<(jn:Int):=Oo
 obtain ⟨x0,x1,x2⟩:=HX3.o.three;have y0:=HY3.o.cell 0;simp only [Yo,Yn] at y0;go_wp2_with fail
 with_reducible refine (Qmy A B C Q n m k c d e L cq N ls w3 (HH.o.below HB3.o) hok (HT.o.below HB3.o) HMAY.o.part (Qkl HMAY.o)).mono ?_
 unfold Qqb;rintro r w5 ⟨⟨g,o,CB,NC,cl,F,rfl,hNC,hG5,hF5,hO5,hC5,hA5⟩,hb5⟩;have HNC:=Zh hNC;have HNL:=Zh (show NC≤1000000000 by rw [hNC];exact Qkl HMAY.o);have HG5:=Zh hG5.rd;have HO5:=Zh (hO5.le (Qan _ _));have HC5:=Zh (show RdI w5 (some ⟨CB,0,none⟩) NC cl from ⟨hC5.1,fun i x hx=>by obtain ⟨b,o,e,h1⟩:=hC5.2 i x hx;exact ⟨b,o,e,Qan _ _ _ _ h1⟩⟩);have HA5:=Zh hA5;have HB5:=Zh (Zb HB3.o hb5);have HX5:=Zh (HX3.o.below hb5 HX3.o.lt);have HY5:=Zh (HY3.o.below hb5 HY3.o.lt);have HJ5:=Zh (HJ3.o.below hb5 HJ3.o.lt);have HOK:=Zh hok;have HF6:=Zh (Qkl (N:=N) (ls:=[Ray n]) ⟨HMAY.o.small,⟨by show (1:Nat)≤10;omega,fun l hl=>by obtain rfl:=List.mem_singleton.1 hl;have:=HMAY.o.small.v;rw [HNV.o] at this;rw [show (Ray n).length=n from List.length_replicate ..];omega⟩,by rw [HNV.o];exact Qlg n⟩);have hn4:n≤4096:=by rw [←HNV.o];exact hok.lv
 clear hNC hG5 hF5 hO5 hC5 hA5 hb5 x0 x1 x2 y0 j3 i6 HX3 HY3 HJ3 hok;have HSX:=Zh (show ∀ V,Bw w5 V→V.cell? ⟨w.heap.size,0,none⟩=some (.slice A n c)∧V.cell? ⟨w.heap.size,1,none⟩=some (.slice B m d)∧V.cell? ⟨w.heap.size,2,none⟩=some (.slice C k e) from fun V hV=>(HX5.o.below hV HX5.o.lt).three);have hmk:=Qdp n Oo;go_wp2_with fail
 refine wp_region_held_drew (S:=fun V=>Bw w5 V) Kf (Zr _ _).drew (fun _=>?_);refine tzd 0 41 ?_;refine Zk 4 (fun K hK=>?_);go_simp;obtain ⟨W2,hW2⟩:=Zx ((w5.alloc (.cells (Qbg (.int .i64 0) n) 3)).drew);rw [←hW2];have hb2:Bw w5 W2:=by rw [hW2];exact Qag
 have hz:Blk W2 w5.heap.size 3 (Qbg (.int .i64 0) n):=by rw [hW2];exact (Blk.new w5 _ _).drew
 refine hK.out _ _ hb2 (fun _=>?_);clear hK K hW2 hmk;refine Zk 5 (fun K hK=>?_);go_simp;obtain ⟨W3,hW3⟩:=Zx (W2.alloc (.cells #[.slice (some ⟨w5.heap.size,0,none⟩) n n] 64));obtain ⟨pb,hpb⟩:=Zx W2.heap.size;rw [←hW3,←hpb];have hb23:Below W2.heap.size W2 W3:=by rw [hW3];exact Qag
 have hp3:Blk W3 pb 64 #[.slice (some ⟨w5.heap.size,0,none⟩) n n]:=by rw [hW3,hpb];exact Blk.new _ _ _
 have hb3':=Zb hb2 hb23;refine hK.out _ _ hb3' (fun _=>?_)
 have HT3:=Zh (show RdT W3 (some ⟨pb,0,none⟩) 1 [Ray n] from ⟨rfl,fun i l hl=>by
  match i,hl with
  | 0,hl=>cases hl;exact ⟨pb,0,_,_,_,rfl,Zq hp3,zeros_rd (hz.below hb23 hz.lt),Zn _,Oo⟩
  | i+1,hl=>simp at hl⟩)
 have HBW:=Zh hb3';clear hK K hW3 hpb hb2 hz hb23 hp3 hb3';refine tz 6 47 ?_;refine Zk 7 (fun K hK=>?_);go_simp;with_reducible refine (Qmy A B C (some ⟨pb,0,none⟩) n m k c d e 1 1 N [Ray n] W3 (HH.o.below (Zb HB5.o HBW.o)) HOK.o HT3.o (by rw [HNV.o];exact Qlg n) HF6.o).mono ?_
 unfold Qqb;rintro r w6 ⟨⟨g2,o2,CB2,NC2,cl2,F2,rfl,hNC,hG5,hF5,hO5,hC5,hA5⟩,hb6⟩;have HNC2:=Zh hNC;have HNL2:=Zh (show NC2≤1000000000 by rw [hNC];exact HF6.o);have HG6:=Zh hG5.rd;have HO6:=Zh (hO5.le (Qan _ _));have HC6:=Zh (show RdI w6 (some ⟨CB2,0,none⟩) NC2 cl2 from ⟨hC5.1,fun i x hx=>by obtain ⟨b,o,e,h1⟩:=hC5.2 i x hx;exact ⟨b,o,e,Qan _ _ _ _ h1⟩⟩);have HA6:=Zh hA5;have HB6:=Zh (Zb HBW.o hb6);clear hNC hG5 hF5 hO5 hC5 hA5 hb6 HT3 HBW;go_simp;refine hK.out _ _ HB6.o (fun _=>?_);clear hK K;refine tz 8 40 ?_;refine tzd 9 49 ?_;refine tzd 13 11 ?_;refine Zd ?_;clear HSX;have HX6:=Zh (HX5.o.below HB6.o HX5.o.lt);have HJ6:=Zh (HJ5.o.below HB6.o HJ5.o.lt);have HBA:=Zh (Zb HB5.o HB6.o);have HMK:=Zh (fun V (hV:Bw w5 V) A' c' (hj:RdP V A' jn st)=>Qgp V g o N ls (some ⟨CB,0,none⟩) NC NC cl dep cap lim A' jn c' st (HG5.o.below hV) (HO5.o.below hV) (HC5.o.below hV) HOK.o HMAY.o.part HNC.o HA5.o ⟨Zn _,by have:=HNL.o;omega⟩ HNL.o hj Oo);have HMK2:=Zh (fun V (hV:Bw w6 V) A' c' (hj:RdP V A' jn st)=>Qgp V g2 o2 N [Ray n] (some ⟨CB2,0,none⟩) NC2 NC2 cl2 dep cap lim A' jn c' st (HG6.o.below hV) (HO6.o.below hV) (HC6.o.below hV) HOK.o (by rw [HNV.o];exact Qlg n) HNC2.o HA6.o ⟨Zn _,by have:=HNL2.o;omega⟩ HNL2.o hj Oo);have HQ5:=Zh (HB6.o);have HJL:=Zh HJ.o.1;have HJR:=Zh (HJ.o.below HBA.o);obtain ⟨x0,x1,x2,x3⟩:=HJ6.o.four;clear HB6 HX5 HY5 HJ5 HG5 HO5 HC5 HA5 HG6 HO6 HC6 HA6 HNC HNL HNC2 HNL2 HF6 HX6 HT HH;go_wp2_with fail
 with_reducible refine (Raq dep cap lim JA jn jc st w6 HJR.o Oo).mono ?_
 rintro e w7 ⟨A',c',rfl,hst,hb7⟩;have HST7:=Zh hst;have HB7:=Zh hb7;clear hst hb7 x0 x1 x2 x3 HJ6 HJR;go_wp2_with fail
 (refine Qab ?_;intro w8 hw8);have hb8:Bw w7 w8:=by rw [hw8];exact Qag
 have HJ8:=Zh (show Blk w8 w7.heap.size 42 #[.int .i64 dep,.int .i64 cap,.int .i64 lim,.slice A' jn c'] by rw [hw8];exact Blk.new _ _ _);have HB8:=Zh (Zb HB7.o hb8);have HST8:=Zh (HST7.o.below hb8);clear hw8 hb8 HST7 HB7;with_reducible refine (HMK.o w8 (Zb HQ5.o HB8.o) A' c' HST8.o).mono ?_
 unfold MakP;rintro e w9 ⟨⟨b,hpb,hm⟩,hb9⟩;have HB9:=Zh (Zb HB8.o hb9);have HST9:=Zh (HST8.o.below hb9);have HJ9:=Zh (HJ8.o.below hb9 HJ8.o.lt);have hle9:=hb9;obtain ⟨x0,x1,x2,x3⟩:=HJ9.o.four;have hjl:=HJ9.o.lt;clear HMK HST8 HJ8 HB8
 cases b with
 | some x =>
  obtain ⟨px,kx,cx⟩:=x;obtain ⟨v,rfl,hch⟩:=hm;obtain ⟨ty1,xv,rfl⟩:=Qaw hch;clear hch hb9 hle9;go_wp2_with fail
  (refine Qab ?_;intro wa hwa);have hba:Bw w9 wa:=by rw [hwa];exact Qag
  have hXa:Blk wa w9.heap.size 45 #[.slice none 0 0,.int .i64 0]:=by rw [hwa];exact Blk.new _ _ _
  clear hwa x0 x1 x2 x3;with_reducible refine (HMK2.o wa (Zb HB9.o hba) A' c' (HST9.o.below hba)).mono ?_
  unfold MakP;rintro e wb ⟨⟨b,hpb2,hm⟩,hbb⟩;obtain rfl:=hpb.uniq hpb2;obtain ⟨v,rfl,hch⟩:=hm;obtain ⟨ty2,xv2,rfl⟩:=Qaw hch;have HXb:=Zh (hXa.below hbb hXa.lt);have HBb:=Zh (Zb HBA.o (Zb HB9.o (Zb hba hbb)));clear hpb hpb2 hch hba hbb hXa HMK2;go_wp2_with fail
  (refine Qai ?_;intro wc hwc);have hbc:Bw wb wc:=by rw [hwc];exact Qag
  have HXc:=Zh (HXb.o.below hbc HXb.o.lt);have HYc:=Zh (show Blk wc wb.heap.size 45 #[.slice none 0 0,.int .i64 0] by rw [hwc];exact Blk.new _ _ _);have HBc:=Zh (Zb HBb.o hbc);have hbc2:Bw wc wc:=Zr _ _;have HR0:=Zh (show RdT wc none 0 [] from ⟨rfl,fun i l hl=>by simp at hl⟩);clear hwc hbc HXb HBb;have HSX:=Zh (show ∀ V,Bw wc V→V.cell? ⟨w9.heap.size,0,none⟩=some (.slice none 0 0)∧V.cell? ⟨w9.heap.size,1,none⟩=some (.int .i64 0)∧V.cell? ⟨wb.heap.size,0,none⟩=some (.slice none 0 0)∧V.cell? ⟨wb.heap.size,1,none⟩=some (.int .i64 0) from fun V hV=>⟨by rw [(HXc.o.below hV HXc.o.lt).cell];rfl,by rw [(HXc.o.below hV HXc.o.lt).cell];rfl,by rw [(HYc.o.below hV HYc.o.lt).cell];rfl,by rw [(HYc.o.below hV HYc.o.lt).cell];rfl⟩);have HSR:=Zh (fun V (hV:Bw wc V)=>Qfo none none 0 0 0 0 [] V (HR0.o.below hV) (HR0.o.below hV) Oo (fun r hr=>by cases hr));go_wp2_with fail
  refine wp_region_held_drew (S:=fun V=>Bw wc V) Kf (Zr _ _).drew (fun _=>?_);refine tzd 0 77 ?_;refine tzd 4 81 ?_;refine tzb 8 85 ?_;refine Zk 10 (fun K hK=>?_);go_simp;with_reducible refine (HSR.o _ (Zr _ _).drew).mono ?_
  rintro r wd ⟨rfl,hbd⟩;have hbd':Bw wc wd:=(Zr _ _).drew.trans hbd;go_simp;refine hK.out _ _ hbd' (fun _=>?_);clear hK K;refine tzd 11 88 ?_;refine tzd 15 92 ?_;refine tz 19 6 ?_;refine Zd ?_;have HBD:=Zh (Zb HBc.o hbd');clear hbd hbd' HSX HSR;go_wp2_with fail
  go_ret;exact ⟨Qao Sm,HBD.o⟩
 | none =>
  obtain ⟨dd,a,mm,c9,out,hmt,rfl,hr9,hmade,hfits⟩:=hm;have hright:=hmade.right HOK.o hmt HJL.o hfits;have HR9:=Zh hr9;clear hr9 hb9 hle9;go_wp2_with fail
  (refine Qab ?_;intro wa hwa);have hba:Bw w9 wa:=by rw [hwa];exact Qag
  have hXa:Blk wa w9.heap.size 45 #[.slice (some a) mm c9,.int .i64 (Qba dd out)]:=by rw [hwa];exact Blk.new _ _ _
  clear hwa x0 x1 x2 x3;with_reducible refine (HMK2.o wa (Zb HB9.o hba) A' c' (HST9.o.below hba)).mono ?_
  unfold MakP;rintro e wb ⟨⟨b,hpb2,hm⟩,hbb⟩;obtain rfl:=hpb.uniq hpb2;obtain ⟨dd2,a2,mm2,c2,out2,hmt2,rfl,hr2,hmade2,hfits2⟩:=hm;obtain rfl:=hmt.uniq hmt2;obtain rfl:=hmade.uniq hmade2;have HXb:=Zh (hXa.below hbb hXa.lt);have HRb:=Zh (HR9.o.below (Zb hba hbb));have HR2:=Zh hr2;have HRT:=Zh hright;have HBb:=Zh (Zb HBA.o (Zb HB9.o (Zb hba hbb)));clear hpb hpb2 hba hbb hXa HMK2 hmt hmt2 hmade hmade2 hfits hfits2 hright hr2 HR9;go_wp2_with fail
  (refine Qai ?_;intro wc hwc);have hbc:Bw wb wc:=by rw [hwc];exact Qag
  have HXc:=Zh (HXb.o.below hbc HXb.o.lt);have HYc:=Zh (show Blk wc wb.heap.size 45 #[.slice (some a2) mm2 c2,.int .i64 (Qba dd out)] by rw [hwc];exact Blk.new _ _ _);have HBc:=Zh (Zb HBb.o hbc);have HRc:=Zh (HRb.o.below hbc);have HRd:=Zh (HR2.o.below hbc);clear hwc hbc HXb HBb HRb HR2;have HSX:=Zh (show ∀ V,Bw wc V→V.cell? ⟨w9.heap.size,0,none⟩=some (.slice (some a) mm c9)∧V.cell? ⟨w9.heap.size,1,none⟩=some (.int .i64 (Qba dd out))∧V.cell? ⟨wb.heap.size,0,none⟩=some (.slice (some a2) mm2 c2)∧V.cell? ⟨wb.heap.size,1,none⟩=some (.int .i64 (Qba dd out)) from fun V hV=>⟨by rw [(HXc.o.below hV HXc.o.lt).cell];rfl,by rw [(HXc.o.below hV HXc.o.lt).cell];rfl,by rw [(HYc.o.below hV HYc.o.lt).cell];rfl,by rw [(HYc.o.below hV HYc.o.lt).cell];rfl⟩);have HSR:=Zh (fun V (hV:Bw wc V)=>Qfo (some a) (some a2) mm c9 mm2 c2 out V (HRc.o.below hV) (HRd.o.below hV) (by have:=(Qgt HRT.o).1;have:=HRc.o.1;omega) (fun r hr=>by have:=(Qgt HRT.o).2.1 r hr;omega));go_wp2_with fail
  refine wp_region_held_drew (S:=fun V=>Bw wc V) Kf (Zr _ _).drew (fun _=>?_);refine tzd 0 77 ?_;refine tzd 4 81 ?_;refine tzb 8 85 ?_;refine Zk 10 (fun K hK=>?_);go_simp;with_reducible refine (HSR.o _ (Zr _ _).drew).mono ?_
  rintro r wd ⟨rfl,hbd⟩;have hbd':Bw wc wd:=(Zr _ _).drew.trans hbd;go_simp;refine hK.out _ _ hbd' (fun _=>?_);clear hK K;refine tzd 11 88 ?_;refine tzd 15 92 ?_;refine tz 19 6 ?_;refine Zd ?_;have HBD:=Zh (Zb HBc.o hbd');clear hbd hbd' HSX HSR;go_wp2_with fail
  go_ret;exact ⟨Qao Sm,HBD.o⟩
end Go.Proofs.YtkaaakbejnlbgaaGreatDoor
namespace Go.Proofs.YtkaaakbejnlbgaaGreatDoor
open Go.ChangeShapes Go.WideShapes Go.ChangeAt Go.RowKit Go.Deep
namespace PlanCellsDone
theorem lifted (os:Os)(started:os.Started)(H:Type)(enc:TypeId×Value→H) :
 ReturnsInHanded {} Tryz.checked os 7 .any (fun w args => (Rows.planCellsSpec.pre enc Tryz.prog Tryz.f7 [] false w args ∧ laidMetH Tryz.prog [("errors.errorType", Rows.laid_errors_errorType)] w) ∧ sizedMet enc Tryz.prog Tryz.f7 (OpenSpec.ofChange Rows.planCellsSpec) false w args)
  (Rows.planCellsSpec.post enc Tryz.prog Tryz.f7 false true false false):=by
 refine returnsInHanded_of_change_and (C := Tryz.checked) (X := fun w _ => laidMetH Tryz.prog [("errors.errorType", Rows.laid_errors_errorType)] w) (fun _ _ _ hh h => h.of_heap hh) own_ started (by kernel_rfl) Tryz.func7
  (ChangeSpec.witness_at (enc := enc) (C := Tryz.checked) (os := os) (X := fun w _ => laidMetH Tryz.prog [("errors.errorType", Rows.laid_errors_errorType)] w) false (Qhl os) #[.agg #[.slice none 0 0, .slice none 0 0, .slice none 0 0], .agg #[.slice none 0 0], .agg #[.int .i64 0, .int .i64 0, .int .i64 0, .slice none 0 0]] 8 rfl (by kernel_rfl) (by kernel_rfl) (by kernel_rfl) (by kernel_rfl) (by kernel_rfl) (Qek os _)) ?_
 intro W base args ds gs before hval0 hW _ hsz0 hL _;clear hsz0;have hval:∀ (j:Nat) t v,Tryz.f7.params[j]?=some t→args[j]?=some v→Value.okWide Tryz.prog W .any base t v:=hval0;have hW':=hW;obtain ⟨p,q,hA0,hV,rfl,hfz,hnd⟩:=hW;have hA:DataW.TrodAll enc Tryz.prog W 0 (fun _=>true) true Tryz.f7.params.toList args.toList ds p:=hA0;rw [Tryz.params7] at hA hval;obtain ⟨v0,vs0,d0,ds0,p0,q0,hargs,rfl,rfl,h0,r0⟩:=trodAll_cons hA;obtain ⟨v1,vs1,d1,ds1,p1,q1,rfl,rfl,rfl,h1,r1⟩:=trodAll_cons r0;obtain ⟨v2,vs2,d2,ds2,p2,q2,rfl,rfl,rfl,h2,r2⟩:=trodAll_cons r1;obtain ⟨rfl,rfl,rfl⟩:=trodAll_nil r2;obtain rfl:args=#[v0,v1,v2]:=by cases args;simp_all
 obtain ⟨rfl,rfl⟩:=trodVars_none hV;obtain ⟨cs0,rfl,_⟩:=okWide_struct Tryz.underlying26 (hval 0 26 v0 rfl rfl);have k0:=h0;have lt0:∀ x∈p0,x.block<W.heap.size:=by obtain ⟨m,hm⟩:=k0;exact DataW.trod_lt m _ _ _ hm
 obtain ⟨A,B,C,n,m,k,c,d,e,N,hcs0,hnet,hk⟩:∃ (A B C:Option Addr) (n m k c d e:Nat) (N:Qak),cs0=#[.slice A n c,.slice B m d,.slice C k e]∧Qcp W A B C n m k N∧k≤9223372036854775807:=by{exact Kav};subst hcs0;obtain ⟨cs1,rfl,_⟩:=okWide_struct Tryz.underlying29 (hval 1 29 v1 rfl rfl);have k1:=h1;have lt1:∀ x∈p1,x.block<W.heap.size:=by obtain ⟨m,hm⟩:=k1;exact DataW.trod_lt m _ _ _ hm
 obtain ⟨Q,L,cq,ls,hcs1,hpart,hLc⟩:∃ (Q:Option Addr) (L cq:Nat) (ls:List (List Int)),cs1=#[.slice Q L cq]∧RdT W Q L ls∧L≤9223372036854775807:=by{exact Kde};subst hcs1;obtain ⟨cs2,rfl,_⟩:=okWide_struct Tryz.underlying32 (hval 2 32 v2 rfl rfl);have k2:=h2;have lt2:∀ x∈p2,x.block<W.heap.size:=by obtain ⟨m,hm⟩:=k2;exact DataW.trod_lt m _ _ _ hm
 obtain ⟨dep,cap,lim,JA,jn,jc,st,hcs2,hjob⟩:∃ (dep cap lim:Int) (JA:Option Addr) (jn jc:Nat) (st:List (Int×Int)),cs2=#[.int .i64 dep,.int .i64 cap,.int .i64 lim,.slice JA jn jc]∧RdP W JA jn st:=by{exact Kcx};subst hcs2;clear hA0 hval0;have hg:=Qdv hL;refine (Qpw A B C Q n m k c d e L cq N ls dep cap lim JA jn jc st W hnet hk hpart hLc hjob hg).mono fun e W' ⟨he,bel⟩=>?_
 exact Kao
theorem jf0:Rows.planCellsRow.wf (OpenSpec.ofChange Rows.planCellsSpec)=true:=by kernel_rfl
theorem jf1:laidOutB Tryz.prog=true:=by kernel_rfl
theorem jf2:mapsRowed Tryz.prog=true:=by kernel_rfl
theorem jf3:Tryz.f7.params.all (Tryz.prog.readableRec ·)=true:=by kernel_rfl
theorem jf4:namedTie Tryz.prog Rows.planCellsRow.named Rows.planCellsSpec.vars=true:=by kernel_rfl
theorem jf5:(Rows.planCellsRow.stops == [])=true:=by kernel_rfl
theorem jf6:(Tryz.prog.stops == [])=true:=by kernel_rfl
theorem jf7:(Rows.planCellsRow.knobs == [])=true:=by kernel_rfl
theorem jf8:(Tryz.prog.stopKnobs == [])=true:=by kernel_rfl
theorem jf9:(Rows.planCellsRow.inPlace == Tryz.prog.inPlace 7)=true:=by kernel_rfl
theorem jf10:(Rows.planCellsRow.unfollowed == Tryz.prog.unfollowed 7)=true:=by kernel_rfl
theorem jf11:(Rows.planCellsRow.recurses == Tryz.prog.recurses 7)=true:=by kernel_rfl
theorem jf12:(Rows.planCellsRow.named == Tryz.prog.varsNamed 7)=true:=by kernel_rfl
theorem jf13:(Rows.planCellsRow.maps == (Tryz.f7.params.toList ++Rows.planCellsSpec.plain.varTypes Tryz.prog).any (Tryz.prog.mapsRec ·))=true:=by kernel_rfl
theorem jf14:(Rows.planCellsRow.ifaces == (Tryz.f7.params.toList ++Rows.planCellsSpec.plain.varTypes Tryz.prog).any (Tryz.prog.ifacesRec ·))=true:=by kernel_rfl
theorem jf15:(Rows.planCellsRow.mapsOut == Tryz.prog.mapsAmong Tryz.f7.resultTypes.toList)=true:=by kernel_rfl
theorem jf16:(Rows.planCellsRow.loops == (Tryz.f7.params.toList ++Rows.planCellsSpec.plain.varTypes Tryz.prog).any (Tryz.prog.loopsFrom ·))=true:=by kernel_rfl
theorem jf17:(Rows.planCellsRow.wideKeys == (Tryz.f7.params.toList ++Rows.planCellsSpec.plain.varTypes Tryz.prog ++Tryz.f7.resultTypes.toList).any (Tryz.prog.wideKeysFrom ·))=true:=by kernel_rfl
theorem jf18:Rows.planCellsSpec.vars.all (Tryz.prog.varReadable ·)=true:=by kernel_rfl
theorem jf19:Tryz.f7.resultTypes.all (fun t=>Tryz.prog.readableRec t && decide (t<Tryz.prog.types.size))=true:=by kernel_rfl
theorem jf20:(Rows.planCellsRow.ifacesOut == Tryz.f7.resultTypes.toList.any (Tryz.prog.ifacesRec ·))=true:=by kernel_rfl
theorem jf21:(Rows.planCellsRow.loopsOut == Tryz.f7.resultTypes.toList.any (Tryz.prog.loopsFrom ·))=true:=by kernel_rfl
theorem jf22:(Rows.planCellsRow.plainKeys == Tryz.prog.plainKeys)=true:=by kernel_rfl
theorem jf23:Rows.planCellsRow.shortTexts.isNone=true:=by kernel_rfl
theorem jf24:Tryz.prog.stopsHeard=true:=by kernel_rfl
theorem jf25:Tryz.prog.mayEnter=true:=by kernel_rfl
theorem jf26:(Rows.planCellsRow.lifted == Tryz.prog.liftsFinal)=true:=by kernel_rfl
theorem jf27:(Tryz.prog.make == some Rows.planCellsRow.make)=true:=by kernel_rfl
theorem jf28:(Rows.planCellsRow.kinds == (if Rows.planCellsRow.domain.isEmpty then [] else Tryz.f7.params.toList.map fun t=>match Tryz.prog.underlying t with|some (.int k)=>some k|_=>none))=true:=by kernel_rfl
theorem jf29:(Rows.planCellsRow.pinned == Rows.planCellsRow.pinnedBy)=true:=by kernel_rfl
theorem jf30:(Rows.planCellsRow.veiled == (Tryz.f7.params.toList ++Rows.planCellsSpec.plain.varTypes Tryz.prog ++Tryz.f7.resultTypes.toList).any (Tryz.prog.veiledRec ·))=true:=by kernel_rfl
theorem jf31:Rows.planCellsRow.veiledFits Tryz.prog Tryz.f7.params.toList (Tryz.f7.params.toList ++Rows.planCellsSpec.plain.varTypes Tryz.prog ++Tryz.f7.resultTypes.toList)=true:=by kernel_rfl
theorem closed:joinedFacts Tryz.prog 7 Tryz.f7 Rows.planCellsSpec Rows.planCellsRow=true:=by exact Kak
theorem named : Tryz.prog.funcNamed "roundsman/roundsmanlaw27.PlanCells" = some 7 := by kernel_rfl
theorem inst:Tryz.f7.isInstance Tryz.prog Rows.planCellsRow.origin Rows.planCellsRow.targs:=of_decide_eq_true (by kernel_rfl)
theorem wrap:Tryz.f7.isWrapper Tryz.prog Rows.planCellsRow.wrapper Rows.planCellsRow.mainSum:=by unfold Func.isWrapper;rw [if_neg (of_decide_eq_false (by kernel_rfl))];exact ⟨rfl,rfl⟩
theorem over:Rows.PlanCellsSaid :=
 OpenClaim.holds_of_wide 7 Tryz.f7 rfl rfl rfl rfl rfl rfl rfl ⟨rfl,rfl,rfl,rfl,rfl⟩ rfl rfl rfl rfl rfl named Tryz.func7 closed inst wrap
  (fun os started H enc _=>lifted os started H enc)
theorem byText:Rows.planCellsRow.wfByText (OpenSpec.ofChange Rows.planCellsSpec)=true:=by kernel_rfl
theorem mainIs : Tryz.prog.mainIs = some (((true, "f25173250175b9aacc832745e98502d9796bb224982b4f95df53e49dc850ce8a") : Bool × String).1, ((true, "f25173250175b9aacc832745e98502d9796bb224982b4f95df53e49dc850ce8a") : Bool × String).2.toList) := by kernel_rfl
theorem looksL:true=Tryz.prog.looks []:=by kernel_rfl
theorem goes:false=Rows.planCellsRow.goesBy Tryz.prog:=by kernel_rfl
theorem proved:Rows.PlanCellsCardSaid :=
 Claim7.holds_tied_plain_at .later [] [.handle] true (true, "f25173250175b9aacc832745e98502d9796bb224982b4f95df53e49dc850ce8a") true
  over (fun _ h=>by cases h) byText (fun _ h=>by cases h) planCells_row_tie rfl ⟨rfl,rfl⟩ mainIs rfl
  (fun f fn hf hfn=>by
   obtain rfl:f=7:=Yv (named.symm.trans hf) |>.symm
   obtain rfl:fn=Tryz.f7:=(Yv (Tryz.func7.symm.trans hfn)).symm
   exact ⟨looksL,fun j t ht=>by
    rw [Tryz.params7] at ht
    rcases j with _|_|_|j
    · obtain rfl:t=26:=by simpa using ht.symm
      exact (show Tryz.prog.wantsStandIn 26=false by kernel_rfl)
    · obtain rfl:t=29:=by simpa using ht.symm
      exact (show Tryz.prog.wantsStandIn 29=false by kernel_rfl)
    · obtain rfl:t=32:=by simpa using ht.symm
      exact (show Tryz.prog.wantsStandIn 32=false by kernel_rfl)
    · simp at ht⟩)
  goes
#print axioms proved
end PlanCellsDone
