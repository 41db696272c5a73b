/- Parts of the proof: AsE. -/
import Derived.Test.YteaoiabikjnkeaaGreatDoorM1
import Derived.Test.YteaoiabikjnkeaaGreatDoorM28
import Derived.Test.YteaoiabikjnkeaaGreatDoorM32
namespace Go.Proofs.YteaoiabikjnkeaaGreatDoor
open Go.RowKit
attribute [local go_sem ↓] Go.wp_at_zero Go.wp_at_succ
section
variable (w:World) (g o:Nat) (N:Qao) (ls:List (List Int)) (CA:Option Addr) (NC cC:Nat) (cl:List Int)
theorem flat_any (f t:Int)(hg:Qev w g N)(hok:Qau N):∃ T W:Int,(0≤T∧T≤1152921504606846976)∧(0≤W∧W≤1152921504606846976)∧Qob N ls 0 f t (Qdw T W) ∧
 (∀ V,Below w.heap.size w V→Calls Tryz.prog 71 #[.pointer (some ⟨g,0,none⟩),.int .i64 f,.int .i64 t] V fun e w'=>e=.returned (.int .i64 T)∧Below V.heap.size V w') ∧
 (∀ V,Below w.heap.size w V→Calls Tryz.prog 72 #[.pointer (some ⟨g,0,none⟩),.int .i64 t] V fun e w'=>e=.returned (.int .i64 W)∧V=w'):=by
 by_cases ht:0≤t∧t<(N.ar.length:Int)
 · obtain ⟨b,rfl⟩:∃ b:Nat,t=(b:Int):=⟨t.toNat,by omega⟩
   obtain ⟨z,hz⟩:∃ z,N.ar[b]?=some z:=⟨_,Zg (by omega)⟩;have hzw:0≤z.2.2∧z.2.2≤1152921504606846976:=by have:=Qdu (hok.arcs z (Zm hz)).w; omega
   by_cases hf:0≤f∧f<(N.ar.length:Int)
   · obtain ⟨a,rfl⟩:∃ a:Nat,f=(a:Int):=⟨f.toNat,by omega⟩
     obtain ⟨y,hy⟩:∃ y,N.ar[a]?=some y:=⟨_,Zg (by omega)⟩;have hb:=Qdb hok a b;exact ⟨Qat N a b,z.2.2,⟨by omega,by omega⟩,hzw,Qgn hy hz,fun V hV=>Qmx g a b N y z V (hg.below hV) hy hz,fun V hV=>Qdy g b N z V (hg.below hV) hz⟩
   · refine ⟨1152921504606846976,z.2.2,⟨by omega,by omega⟩,hzw,?_,fun V hV=>Qtg g N f b V (hg.below hV) (.inl hf),fun V hV=>Qdy g b N z V (hg.below hV) hz⟩
     have e:Qdw 1152921504606846976 z.2.2=1152921504606846976:=by unfold Qdw; split <;> omega
     rw [e];exact Qjx (fun a b' e1 _ h1 _=>absurd ⟨by omega,by omega⟩ hf)
 · refine ⟨1152921504606846976,1152921504606846976,⟨by omega,by omega⟩,⟨by omega,by omega⟩,?_,fun V hV=>Qtg g N f t V (hg.below hV) (.inr ht),fun V hV=>Qvg g N t V (hg.below hV) ht⟩
   have e:Qdw 1152921504606846976 1152921504606846976=1152921504606846976:=by unfold Qdw; split <;> omega
   rw [e];exact Qjx (fun a b' _ e2 _ h2=>absurd ⟨by omega,by omega⟩ ht)
def AprR (lv f t:Int)(r:Ending)(w':World):Prop:=(∃ v,r=.returned (.int .i64 v)∧Qob N ls lv f t v)∧Below w.heap.size w w'
set_option maxHeartbeats 2000000 in
theorem Qrr (lv f t:Int)(hg:Qev w g N)(ho:Qgj w o N.ar ls)(hc:RdI w CA NC cl)(hok:Qau N)(hP:Qay N.vs.length ls)(hA:Qdo N ls cl) (hSm:Qbx (Qae N.ar ls)≤1000000000) :
 Calls Tryz.prog 26 #[.pointer (some ⟨g,0,none⟩),.pointer (some ⟨o,0,none⟩),.slice CA NC cC,.agg #[.int .i64 lv,.int .i64 f,.int .i64 t]] w (AprR w N ls lv f t):=by
 unfold AprR
 by_cases hlv:lv=0
 · subst hlv
   obtain ⟨T,W,hT,hW,hpr,hTU,hWE⟩:=flat_any w g N ls f t hg hok;have HTU:=Zh hTU;have HWE:=Zh hWE;have HT:=Zh hT;have HW:=Zh hW;have HPR:=Zh hpr;clear hg ho hc hok hP hA hSm hTU hWE hT hW hpr
   go_enter Tryz.func26,Tryz.ntmps26
   go_wp2_with fail
   (refine Qaj ?_; intro w1 hw1)
   have HB1:=Zh (show Below w.heap.size w w1 by rw [hw1]; exact Qah)
   have HZ:=Zh (show Blk w1 w.heap.size 62 #[.int .i64 0,.int .i64 f,.int .i64 t] by rw [hw1]; refine Blk.new' _ _ _ ?_; rfl)
   clear hw1;obtain ⟨z0,z1,z2⟩:=HZ.out.three
   go_wp2_with fail
   clear z0 z1 z2;have HSX:=Zh (show ∀ V,Below w1.heap.size w1 V→V.cell? ⟨w.heap.size,1,none⟩=some (.int .i64 f)∧V.cell? ⟨w.heap.size,2,none⟩=some (.int .i64 t) from fun V hV=>((HZ.out.below hV HZ.out.lt).three).2)
   refine wp_region_held_drew (S:=fun V=>Below w1.heap.size w1 V) (by kernel_rfl) (Zr _ _).drew (fun _=>?_);refine tz 0 29 ?_;refine tz 1 30 ?_;refine tz 2 31 ?_;refine tz 3 32 ?_;refine tz 4 33 ?_;refine tz 6 35 ?_;refine tz 7 36 ?_;refine tz 8 37 ?_;refine Zk 5 (fun K hK=>?_);go_simp;with_reducible refine (HTU.out _ (Zb HB1.out (Zr _ _).drew)).mono ?_
   rintro r w2 ⟨rfl,hb2⟩;have hb2':Below w1.heap.size w1 w2:=(Zr _ _).drew.trans hb2;go_simp;refine hK.out _ _ hb2' (fun _=>?_);clear hK K hb2;refine Zk 9 (fun K hK=>?_);go_simp;with_reducible refine (HWE.out w2 (Zb HB1.out hb2')).mono ?_
   rintro r w' ⟨rfl,rfl⟩;go_simp;refine hK.out _ _ hb2' (fun _=>?_);clear hK K;refine Zk 10 (fun K hK=>?_);go_simp;with_reducible refine (Qed w2 T W HT.out HW.out).mono ?_
   rintro r w' ⟨rfl,rfl⟩;go_simp;refine hK.out _ _ hb2' (fun _=>?_);clear hK K;refine tz 11 8 ?_;refine wpAnyH_done (by kernel_rfl) ?_ _
   go_wp2_with fail
   go_ret
   exact ⟨⟨_,rfl,HPR.out⟩,Zb HB1.out hb2'⟩
 have i0:¬lv=0:=hlv
 by_cases hneg:lv<0
 · have HPR:=Zh (show Qob N ls lv f t 1152921504606846976 from Qjx (fun a b _ _ _ _=>⟨hlv,by rintro ⟨j,l,y,z,e,_⟩; omega⟩))
   clear hg ho hc hok hP hA hSm hlv
   go_enter Tryz.func26,Tryz.ntmps26
   go_wp2_with fail
   go_ret
   exact ⟨⟨_,rfl,HPR.out⟩,Qah⟩
 have HLS:=Zh (fun V (hV:Below w.heap.size w V)=>Qjw o N.ar ls V (ho.below hV));obtain ⟨L,hL⟩:∃ L,L=ls.length:=⟨_,rfl⟩;rw [←hL] at HLS;have hL6:L≤6:=by rw [hL]; exact hP.l6
 by_cases hhi:lv > (L:Int)
 · have HPR:=Zh (show Qob N ls lv f t 1152921504606846976 from Qjx (fun a b _ _ _ _=>⟨hlv,by rintro ⟨j,l,y,z,e,hl,_⟩; have:=(Zs hl).1; omega⟩))
   have i1:(L:Int)<lv:=hhi
   clear hg ho hc hok hP hA hSm hlv hL
   go_enter Tryz.func26,Tryz.ntmps26
   go_wp2_with fail
   (refine Qaj ?_; intro w1 hw1)
   have HB1:=Zh (show Below w.heap.size w w1 by rw [hw1]; exact Qah)
   have HZ:=Zh (show Blk w1 w.heap.size 62 #[.int .i64 lv,.int .i64 f,.int .i64 t] by rw [hw1]; refine Blk.new' _ _ _ ?_; rfl)
   clear hw1;obtain ⟨z0,z1,z2⟩:=HZ.out.three
   go_wp2_with fail
   clear z0 z1 z2;have HSX:=Zh (show ∀ V,Below w1.heap.size w1 V→V.cell? ⟨w.heap.size,0,none⟩=some (.int .i64 lv) from fun V hV=>((HZ.out.below hV HZ.out.lt).three).1)
   refine wp_region_held_drew (S:=fun V=>Below w1.heap.size w1 V) (by kernel_rfl) (Zr _ _).drew (fun _=>?_);refine tz 0 24 ?_;refine tz 1 25 ?_;refine tz 2 26 ?_;refine Zk 3 (fun K hK=>?_);go_simp;with_reducible refine (HLS.out _ (Zb HB1.out (Zr _ _).drew)).mono ?_
   rintro r w' ⟨rfl,rfl⟩;go_simp;refine hK.out _ _ (Zr _ _).drew (fun _=>?_);clear hK K;refine tz 4 28 ?_;refine tz 5 23 ?_;refine wpAnyH_done (by kernel_rfl) ?_ _;clear HSX;obtain ⟨w2,hw2⟩:∃ W,W=w1.drew:=⟨_,rfl⟩;rw [←hw2];have hb2:Below w1.heap.size w1 w2:=by rw [hw2]; exact (Zr _ _).drew
   have HZ2:=Zh (HZ.out.below hb2 HZ.out.lt);have HB2:=Zh (Zb HB1.out hb2);clear hw2 hb2
   go_wp2_with fail
   go_ret
   exact ⟨⟨_,rfl,HPR.out⟩,HB2.out⟩
 have i1:¬((L:Int)<lv):=hhi;have HPT:=Zh (fun V (hV:Below w.heap.size w V)=>Qhr o N.ar ls V (ho.below hV) (by omega) (fun l hl=>by have:=(hP.lvl l hl).len; have:=hok.lv; omega));rw [←hL] at HPT;have HEN:=Zh (fun V (hV:Below w.heap.size w V) Q cq (hq:RdT V Q L ls)=>Qqe V g N ls Q L cq lv f (hg.below hV) hq hok hP);have HLE:=Zh (fun V (hV:Below w.heap.size w V) Q cq (hq:RdT V Q L ls)=>Qrg V g N ls Q L cq lv t (hg.below hV) hq hok hP)
 by_cases hen:enF N ls lv f<0∨leF N ls lv t≠enF N ls lv f
 · have HPR:=Zh (show Qob N ls lv f t 1152921504606846976 from Qjx (fun a b e1 e2 _ _=>⟨hlv,Qxv hok hP hen a b e1 e2⟩))
   obtain ⟨ev,hev⟩:∃ ev,ev=enF N ls lv f:=⟨_,rfl⟩;obtain ⟨lw,hlw⟩:∃ ev,ev=leF N ls lv t:=⟨_,rfl⟩;rw [←hev,←hlw] at hen;rw [←hev] at HEN;rw [←hlw] at HLE;clear hg ho hc hok hP hA hSm hlv hL hev hlw
   by_cases h0:ev<0
   · clear hen HLE
     go_enter Tryz.func26,Tryz.ntmps26
     go_wp2_with fail
     (refine Qaj ?_; intro w1 hw1)
     have HB1:=Zh (show Below w.heap.size w w1 by rw [hw1]; exact Qah)
     have HZ:=Zh (show Blk w1 w.heap.size 62 #[.int .i64 lv,.int .i64 f,.int .i64 t] by rw [hw1]; refine Blk.new' _ _ _ ?_; rfl)
     clear hw1;obtain ⟨z0,z1,z2⟩:=HZ.out.three
     go_wp2_with fail
     clear z0 z1 z2;have HSX:=Zh (show ∀ V,Below w1.heap.size w1 V→V.cell? ⟨w.heap.size,0,none⟩=some (.int .i64 lv) from fun V hV=>((HZ.out.below hV HZ.out.lt).three).1)
     refine wp_region_held_drew (S:=fun V=>Below w1.heap.size w1 V) (by kernel_rfl) (Zr _ _).drew (fun _=>?_);refine tz 0 24 ?_;refine tz 1 25 ?_;refine tz 2 26 ?_;refine Zk 3 (fun K hK=>?_);go_simp;with_reducible refine (HLS.out _ (Zb HB1.out (Zr _ _).drew)).mono ?_
     rintro r w' ⟨rfl,rfl⟩;go_simp;refine hK.out _ _ (Zr _ _).drew (fun _=>?_);clear hK K;refine tz 4 28 ?_;refine tz 5 23 ?_;refine wpAnyH_done (by kernel_rfl) ?_ _;clear HSX;obtain ⟨w2,hw2⟩:∃ W,W=w1.drew:=⟨_,rfl⟩;rw [←hw2];have hb2:Below w1.heap.size w1 w2:=by rw [hw2]; exact (Zr _ _).drew
     have HZ2:=Zh (HZ.out.below hb2 HZ.out.lt);have HB2:=Zh (Zb HB1.out hb2);clear hw2 hb2
     go_wp2_with fail
     with_reducible refine (HPT.out w2 HB2.out).mono ?_
     rintro r w3 ⟨Q,cq,rfl,hq3,hb3⟩;have HQ3:=Zh (hq3.le (Qbd _ _));have HZ3:=Zh (HZ2.out.below hb3 HZ2.out.lt);have HB3:=Zh (Zb HB2.out hb3);clear hq3 hb3 HPT;obtain ⟨z0,z1,z2⟩:=HZ3.out.three;have zl:=HZ3.out.lt
     go_wp2_with fail
     clear z0 z1 z2 zl
     (refine Qad ?_; intro w4 hw4)
     have hb4:Below w3.heap.size w3 w4:=by rw [hw4]; exact Qah
     have HY4:=Zh (show Blk w4 w3.heap.size 87 #[.slice Q L cq] by rw [hw4]; refine Blk.new' _ _ _ ?_; rfl)
     clear hw4;have HZ4:=Zh (HZ3.out.below hb4 HZ3.out.lt);have HB4:=Zh (Zb HB3.out hb4);have HQ4:=Zh (HQ3.out.below hb4);clear hb4;with_reducible refine (HEN.out w4 HB4.out Q cq HQ4.out).mono ?_
     rintro r w5 ⟨rfl,hb5⟩;have HZ5:=Zh (HZ4.out.below hb5 HZ4.out.lt);have HY5:=Zh (HY4.out.below hb5 HY4.out.lt);have HB5:=Zh (Zb HB4.out hb5);have HQ5:=Zh (HQ4.out.below hb5);clear hb5 HEN
     go_wp2_with fail
     go_ret
     exact ⟨⟨_,rfl,HPR.out⟩,HB5.out⟩
   · have h1:lw≠ev:=hen.resolve_left h0
     have h2:(lw != ev)=true:=by simpa using h1
     clear hen
     go_enter Tryz.func26,Tryz.ntmps26
     go_wp2_with fail
     (refine Qaj ?_; intro w1 hw1)
     have HB1:=Zh (show Below w.heap.size w w1 by rw [hw1]; exact Qah)
     have HZ:=Zh (show Blk w1 w.heap.size 62 #[.int .i64 lv,.int .i64 f,.int .i64 t] by rw [hw1]; refine Blk.new' _ _ _ ?_; rfl)
     clear hw1;obtain ⟨z0,z1,z2⟩:=HZ.out.three
     go_wp2_with fail
     clear z0 z1 z2;have HSX:=Zh (show ∀ V,Below w1.heap.size w1 V→V.cell? ⟨w.heap.size,0,none⟩=some (.int .i64 lv) from fun V hV=>((HZ.out.below hV HZ.out.lt).three).1)
     refine wp_region_held_drew (S:=fun V=>Below w1.heap.size w1 V) (by kernel_rfl) (Zr _ _).drew (fun _=>?_);refine tz 0 24 ?_;refine tz 1 25 ?_;refine tz 2 26 ?_;refine Zk 3 (fun K hK=>?_);go_simp;with_reducible refine (HLS.out _ (Zb HB1.out (Zr _ _).drew)).mono ?_
     rintro r w' ⟨rfl,rfl⟩;go_simp;refine hK.out _ _ (Zr _ _).drew (fun _=>?_);clear hK K;refine tz 4 28 ?_;refine tz 5 23 ?_;refine wpAnyH_done (by kernel_rfl) ?_ _;clear HSX;obtain ⟨w2,hw2⟩:∃ W,W=w1.drew:=⟨_,rfl⟩;rw [←hw2];have hb2:Below w1.heap.size w1 w2:=by rw [hw2]; exact (Zr _ _).drew
     have HZ2:=Zh (HZ.out.below hb2 HZ.out.lt);have HB2:=Zh (Zb HB1.out hb2);clear hw2 hb2
     go_wp2_with fail
     with_reducible refine (HPT.out w2 HB2.out).mono ?_
     rintro r w3 ⟨Q,cq,rfl,hq3,hb3⟩;have HQ3:=Zh (hq3.le (Qbd _ _));have HZ3:=Zh (HZ2.out.below hb3 HZ2.out.lt);have HB3:=Zh (Zb HB2.out hb3);clear hq3 hb3 HPT;obtain ⟨z0,z1,z2⟩:=HZ3.out.three;have zl:=HZ3.out.lt
     go_wp2_with fail
     clear z0 z1 z2 zl
     (refine Qad ?_; intro w4 hw4)
     have hb4:Below w3.heap.size w3 w4:=by rw [hw4]; exact Qah
     have HY4:=Zh (show Blk w4 w3.heap.size 87 #[.slice Q L cq] by rw [hw4]; refine Blk.new' _ _ _ ?_; rfl)
     clear hw4;have HZ4:=Zh (HZ3.out.below hb4 HZ3.out.lt);have HB4:=Zh (Zb HB3.out hb4);have HQ4:=Zh (HQ3.out.below hb4);clear hb4;with_reducible refine (HEN.out w4 HB4.out Q cq HQ4.out).mono ?_
     rintro r w5 ⟨rfl,hb5⟩;have HZ5:=Zh (HZ4.out.below hb5 HZ4.out.lt);have HY5:=Zh (HY4.out.below hb5 HY4.out.lt);have HB5:=Zh (Zb HB4.out hb5);have HQ5:=Zh (HQ4.out.below hb5);clear hb5 HEN;obtain ⟨z0,z1,z2⟩:=HZ5.out.three;have y0:=HY5.out.cell 0;simp only [List.getElem?_toArray,List.getElem?_cons_zero] at y0
     go_wp2_with fail
     with_reducible refine (HLE.out w5 HB5.out Q cq HQ5.out).mono ?_
     rintro r w6 ⟨rfl,hb6⟩;have HB6:=Zh (Zb HB5.out hb6);clear HLE z0 z1 z2 y0
     go_wp2_with fail
     go_ret
     exact ⟨⟨_,rfl,HPR.out⟩,HB6.out⟩
 have he0:0≤enF N ls lv f:=by omega
 have hle:leF N ls lv t=enF N ls lv f:=by
  by_cases h1:leF N ls lv t=enF N ls lv f
  · exact h1
  · exact absurd (.inr h1) hen
 rw [hle] at HLE;obtain ⟨a,b,j,l,y,z,rfl,rfl,rfl,hl,hy,hz,g1,g2,g3,g4⟩:=Qyw he0 hle;obtain ⟨cc,p,q,kk,x,hcc,hx,hp,hq,hp2,hq2,hI⟩:=Qoo hok hP hl hy hz g1 g2 g3;rw [hcc] at g4;rw [g4] at HEN HLE;obtain ⟨v,hv,hpr⟩:=Qsk hA hl hy hz g1 g2 g3 hcc hI;have HPR:=Zh hpr;have HVB:=Zh (hA.cost hok v (Zm hv));have hkn:kk<NC:=by rw [←hc.1]; exact (Zs hv).1
 have hNC9:NC≤1000000000:=by rw [←hc.1,hA.1]; exact hSm
 have hgl:=Qbl hx;have hla:=hok.la;have HGA:=Zh (fun V (hV:Below w.heap.size w V)=>oGate_ok o j cc N.ar ls l x V (ho.below hV) hl (by omega) hx (by omega));have HPI:=Zh (fun (A1:Option Addr) (n1 c1:Nat) V (hV:RdI V A1 n1 x.1)=>hp ▸ Qfe A1 n1 c1 x.1 (a:Int) V hV (Qei hx) (by rw [←hV.1]; omega));have HPO:=Zh (fun (A1:Option Addr) (n1 c1:Nat) V (hV:RdI V A1 n1 x.2)=>hq ▸ Qfe A1 n1 c1 x.2 (b:Int) V hV (Qel hx) (by rw [←hV.1]; omega));have HAT:=Zh (fun V (hV:Below w.heap.size w V)=>hI.hk.symm ▸ at_ok o j cc p q N.ar ls l x V (ho.below hV) hl hx (Zs hp2).1 (Zs hq2).1 (by omega) (by omega));have HWE:=Zh (fun V (hV:Below w.heap.size w V)=>Qdy g b N z V (hg.below hV) hz);have HZW:=Zh (show 0≤z.2.2∧z.2.2≤1152921504606846976 by have:=Qdu (hok.arcs z (Zm hz)).w; omega)
 obtain ⟨cb,co,v',rfl,hv',cv⟩:=hc.at_ hkn;rw [hv] at hv'
 cases hv'
 have HCV:=Zh cv;have k3:(kk:Int)<(NC:Int):=by omega
 have k4:(0:Int)≤(kk:Int):=by omega
 have k5:¬(kk:Int)<0:=by omega
 have k6:¬(NC:Int)≤(kk:Int):=by omega
 have h0:¬(cc:Int)<0:=by omega
 have h2:((cc:Int) != (cc:Int))=false:=by simp
 obtain ⟨lv,hlve⟩:∃ lv:Int,lv=(j:Int)+1:=⟨_,rfl⟩;obtain ⟨f,hfe⟩:∃ f:Int,f=(a:Int):=⟨_,rfl⟩;obtain ⟨t,hte⟩:∃ t:Int,t=(b:Int):=⟨_,rfl⟩;rw [←hlve] at i0 i1 hneg HEN HLE HGA HAT HPR ⊢;rw [←hfe] at HEN HPI HPR ⊢;rw [←hte] at HLE HPO HWE HPR ⊢;clear hg ho hc hok hP hA hSm hlv hL hlve hfe hte hen he0 hle g1 g2 g3 g4 hcc hx hp hq hp2 hq2 hI hv hpr cv hl hy hz hgl hla hkn hhi
 go_enter Tryz.func26,Tryz.ntmps26
 go_wp2_with fail
 (refine Qaj ?_; intro w1 hw1)
 have HB1:=Zh (show Below w.heap.size w w1 by rw [hw1]; exact Qah)
 have HZ:=Zh (show Blk w1 w.heap.size 62 #[.int .i64 lv,.int .i64 f,.int .i64 t] by rw [hw1]; refine Blk.new' _ _ _ ?_; rfl)
 clear hw1;obtain ⟨z0,z1,z2⟩:=HZ.out.three
 go_wp2_with fail
 clear z0 z1 z2;have HSX:=Zh (show ∀ V,Below w1.heap.size w1 V→V.cell? ⟨w.heap.size,0,none⟩=some (.int .i64 lv) from fun V hV=>((HZ.out.below hV HZ.out.lt).three).1)
 refine wp_region_held_drew (S:=fun V=>Below w1.heap.size w1 V) (by kernel_rfl) (Zr _ _).drew (fun _=>?_);refine tz 0 24 ?_;refine tz 1 25 ?_;refine tz 2 26 ?_;refine Zk 3 (fun K hK=>?_);go_simp;with_reducible refine (HLS.out _ (Zb HB1.out (Zr _ _).drew)).mono ?_
 rintro r w' ⟨rfl,rfl⟩;go_simp;refine hK.out _ _ (Zr _ _).drew (fun _=>?_);clear hK K;refine tz 4 28 ?_;refine tz 5 23 ?_;refine wpAnyH_done (by kernel_rfl) ?_ _;clear HSX;obtain ⟨w2,hw2⟩:∃ W,W=w1.drew:=⟨_,rfl⟩;rw [←hw2];have hb2:Below w1.heap.size w1 w2:=by rw [hw2]; exact (Zr _ _).drew
 have HZ2:=Zh (HZ.out.below hb2 HZ.out.lt);have HB2:=Zh (Zb HB1.out hb2);clear hw2 hb2
 go_wp2_with fail
 with_reducible refine (HPT.out w2 HB2.out).mono ?_
 rintro r w3 ⟨Q,cq,rfl,hq3,hb3⟩;have HQ3:=Zh (hq3.le (Qbd _ _));have HZ3:=Zh (HZ2.out.below hb3 HZ2.out.lt);have HB3:=Zh (Zb HB2.out hb3);clear hq3 hb3 HPT;obtain ⟨z0,z1,z2⟩:=HZ3.out.three;have zl:=HZ3.out.lt
 go_wp2_with fail
 clear z0 z1 z2 zl
 (refine Qad ?_; intro w4 hw4)
 have hb4:Below w3.heap.size w3 w4:=by rw [hw4]; exact Qah
 have HY4:=Zh (show Blk w4 w3.heap.size 87 #[.slice Q L cq] by rw [hw4]; refine Blk.new' _ _ _ ?_; rfl)
 clear hw4;have HZ4:=Zh (HZ3.out.below hb4 HZ3.out.lt);have HB4:=Zh (Zb HB3.out hb4);have HQ4:=Zh (HQ3.out.below hb4);clear hb4;with_reducible refine (HEN.out w4 HB4.out Q cq HQ4.out).mono ?_
 rintro r w5 ⟨rfl,hb5⟩;have HZ5:=Zh (HZ4.out.below hb5 HZ4.out.lt);have HY5:=Zh (HY4.out.below hb5 HY4.out.lt);have HB5:=Zh (Zb HB4.out hb5);have HQ5:=Zh (HQ4.out.below hb5);clear hb5 HEN;obtain ⟨z0,z1,z2⟩:=HZ5.out.three;have y0:=HY5.out.cell 0;simp only [List.getElem?_toArray,List.getElem?_cons_zero] at y0
 go_wp2_with fail
 with_reducible refine (HLE.out w5 HB5.out Q cq HQ5.out).mono ?_
 rintro r w6 ⟨rfl,hb6⟩;have HB6:=Zh (Zb HB5.out hb6);clear HLE z0 z1 z2 y0;have HZ6:=Zh (HZ5.out.below hb6 HZ5.out.lt);clear hb6;obtain ⟨z0,z1,z2⟩:=HZ6.out.three
 go_wp2_with fail
 with_reducible refine (HGA.out w6 HB6.out).mono ?_
 rintro r w7 ⟨A1,n1,c1,A2,n2,c2,rfl,h71,h72,hb7⟩;have HZ7:=Zh (HZ6.out.below hb7 HZ6.out.lt);have HB7:=Zh (Zb HB6.out hb7);clear hb7 HGA z0 z1 z2
 go_wp2_with fail
 (refine Qaj ?_; intro w8 hw8)
 have hb8:Below w7.heap.size w7 w8:=by rw [hw8]; exact Qah
 have hG8:Blk w8 w7.heap.size 164 #[.slice A1 n1 c1,.slice A2 n2 c2]:=by rw [hw8]; refine Blk.new' _ _ _ ?_; rfl
 clear hw8;have HZ8:=Zh (HZ7.out.below hb8 HZ7.out.lt);have HB8:=Zh (Zb HB7.out hb8);have HI8:=Zh (h71.below hb8);have HJ8:=Zh (h72.below hb8)
 have HSX:=Zh (show ∀ V,Below w8.heap.size w8 V→V.cell? ⟨w7.heap.size,0,none⟩=some (.slice A1 n1 c1)∧V.cell? ⟨w7.heap.size,1,none⟩=some (.slice A2 n2 c2)∧V.cell? ⟨w.heap.size,1,none⟩=some (.int .i64 f)∧V.cell? ⟨w.heap.size,2,none⟩=some (.int .i64 t) from fun V hV=>by
  have hG':=hG8.below hV hG8.lt;have hZ':=(HZ8.out.below hV HZ8.out.lt).three;exact ⟨by rw [hG'.cell]; rfl,by rw [hG'.cell]; rfl,hZ'.2⟩)
 clear hb8 h71 h72 hG8
 go_wp2_with fail
 refine wp_region_held_drew (S:=fun V=>Below w8.heap.size w8 V) (by kernel_rfl) (Zr _ _).drew (fun _=>?_);refine tz 0 67 ?_;refine tz 1 68 ?_;refine tz 2 69 ?_;refine tz 3 70 ?_;refine tz 5 72 ?_;refine tz 6 73 ?_;refine tz 7 74 ?_;refine tz 8 75 ?_;refine Zk 4 (fun K hK=>?_);go_simp;with_reducible refine (HPI.out A1 n1 c1 _ (HI8.out.below (Zr _ _).drew)).mono ?_
 rintro r w9 ⟨rfl,hb9⟩;have hb9':Below w8.heap.size w8 w9:=(Zr _ _).drew.trans hb9;go_simp;refine hK.out _ _ hb9' (fun _=>?_);clear hK K hb9;refine Zk 9 (fun K hK=>?_);go_simp;with_reducible refine (HPO.out A2 n2 c2 _ (HJ8.out.below hb9')).mono ?_
 rintro r wa ⟨rfl,hba⟩;have hba':Below w8.heap.size w8 wa:=Zb hb9' hba;go_simp;refine hK.out _ _ hba' (fun _=>?_);clear hK K hba hb9';refine tz 10 12 ?_;refine tz 11 13 ?_;refine wpAnyH_done (by kernel_rfl) ?_ _;clear HSX;have HZa:=Zh (HZ8.out.below hba' HZ8.out.lt);have HBa:=Zh (Zb HB8.out hba');clear hba';obtain ⟨z0,z1,z2⟩:=HZa.out.three
 go_wp2_with fail
 with_reducible refine (HAT.out wa HBa.out).mono ?_
 rintro r wb ⟨rfl,hbb⟩;have HZb:=Zh (HZa.out.below hbb HZa.out.lt);have HBb:=Zh (Zb HBa.out hbb);clear hbb z0 z1 z2
 go_wp2_with fail
 have HSX:=Zh (show ∀ V,Below wb.heap.size wb V→V.cell? ⟨w.heap.size,2,none⟩=some (.int .i64 t)∧V.cell? ⟨cb,co+kk,none⟩=some (.int .i64 v) from fun V hV=>⟨((HZb.out.below hV HZb.out.lt).three).2.2,Zc (Zb HBb.out hV) (Zn _) HCV.out⟩)
 refine wp_region_held_drew (S:=fun V=>Below wb.heap.size wb V) (by kernel_rfl) (Zr _ _).drew (fun _=>?_);refine tz 0 92 ?_;refine tz 1 93 ?_;refine tz 2 94 ?_;refine tz 3 95 ?_;refine tz 4 96 ?_;refine tz 5 97 ?_;refine tz 6 98 ?_;refine Zk 7 (fun K hK=>?_);go_simp;with_reducible refine (HWE.out _ (Zb HBb.out (Zr _ _).drew)).mono ?_
 rintro r w' ⟨rfl,rfl⟩;go_simp;refine hK.out _ _ (Zr _ _).drew (fun _=>?_);clear hK K;refine Zk 8 (fun K hK=>?_);go_simp;with_reducible refine (Qed _ v z.2.2 HVB.out HZW.out).mono ?_
 rintro r w' ⟨rfl,rfl⟩;go_simp;refine hK.out _ _ (Zr _ _).drew (fun _=>?_);clear hK K;refine tz 9 8 ?_;refine wpAnyH_done (by kernel_rfl) ?_ _
 go_wp2_with fail
 go_ret
 exact ⟨⟨_,rfl,HPR.out⟩,HBb.out.drew⟩
end
end Go.Proofs.YteaoiabikjnkeaaGreatDoor
