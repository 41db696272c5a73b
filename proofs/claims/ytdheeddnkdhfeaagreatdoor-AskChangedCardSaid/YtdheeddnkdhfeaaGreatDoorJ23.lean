/- Parts of the proof: AsE, Ak, Pe, Sf, RoT, RoN. -/
import Derived.Test.YtdheeddnkdhfeaaGreatDoorJ22
namespace Go.Proofs.YtdheeddnkdhfeaaGreatDoor
open Go.RowKit Go.Proofs.Tryz
attribute [local go_sem ↓] Go.wp_at_zero Go.wp_at_succ
section
variable (w:World) (g o:Nat) (N:Qak) (ls:List (List Int)) (CA:Option Addr) (NC cC:Nat) (cl:List Int)
theorem flat_any (f t:Int)(hg:Qen w g N)(hok:Qas N):∃ T W:Int,(0≤T∧T≤1152921504606846976)∧(0≤W∧W≤1152921504606846976)∧Qox N ls 0 f t (Qdz T W) ∧
 (∀ V,Below w.heap.size w V→Calls prog 82 #[.pointer (some ⟨g,0,none⟩),.int .i64 f,.int .i64 t] V fun e w'=>e=.returned (.int .i64 T)∧Below V.heap.size V w') ∧
 (∀ V,Below w.heap.size w V→Calls prog 83 #[.pointer (some ⟨g,0,none⟩),.int .i64 t] V fun e w'=>e=.returned (.int .i64 W)∧V=w'):=by
 by_cases ht:0≤t∧t<(N.ar.length:Int)
 · obtain ⟨b,rfl⟩:∃ b:Nat,t=(b:Int):=⟨t.toNat,by omega⟩
   obtain ⟨z,hz⟩:∃ z,N.ar[b]?=some z:=⟨_,Zg (by omega)⟩;have hzw:0≤z.2.2∧z.2.2≤1152921504606846976:=by have:=Qdw (hok.arcs z (Zm hz)).w;omega
   by_cases hf:0≤f∧f<(N.ar.length:Int)
   · obtain ⟨a,rfl⟩:∃ a:Nat,f=(a:Int):=⟨f.toNat,by omega⟩
     obtain ⟨y,hy⟩:∃ y,N.ar[a]?=some y:=⟨_,Zg (by omega)⟩;have hb:=Qcw hok a b;exact ⟨Qaw N a b,z.2.2,⟨by omega,by omega⟩,hzw,Qgw hy hz,fun V hV=>Qog g a b N y z V (hg.below hV) hy hz,fun V hV=>Qeb g b N z V (hg.below hV) hz⟩
   · refine ⟨1152921504606846976,z.2.2,⟨by omega,by omega⟩,hzw,?_,fun V hV=>Qtf g N f b V (hg.below hV) (.inl hf),fun V hV=>Qeb g b N z V (hg.below hV) hz⟩
     have e:Qdz 1152921504606846976 z.2.2=1152921504606846976:=by unfold Qdz;split <;> omega
     rw [e];exact Qkg (fun a b' e1 _ h1 _=>absurd ⟨by omega,by omega⟩ hf)
 · refine ⟨1152921504606846976,1152921504606846976,⟨by omega,by omega⟩,⟨by omega,by omega⟩,?_,fun V hV=>Qtf g N f t V (hg.below hV) (.inr ht),fun V hV=>Qvf g N t V (hg.below hV) ht⟩
   have e:Qdz 1152921504606846976 1152921504606846976=1152921504606846976:=by unfold Qdz;split <;> omega
   rw [e];exact Qkg (fun a b' _ e2 _ h2=>absurd ⟨by omega,by omega⟩ ht)
def AprR (lv f t:Int)(r:Ending)(w':World):Prop:=(∃ v,r=.returned (.int .i64 v)∧Qox N ls lv f t v)∧Below w.heap.size w w'
set_option maxHeartbeats 2000000 in
theorem Qrx (lv f t:Int)(hg:Qen w g N)(ho:Qfw w o N.ar ls)(hc:RdI w CA NC cl)(hok:Qas N)(hP:Qbc N.vs.length ls)(hA:Qdh N ls cl) (hSm:Qca (gatesOf N.ar ls)≤1000000000) :
 Calls prog 36 #[.pointer (some ⟨g,0,none⟩),.pointer (some ⟨o,0,none⟩),.slice CA NC cC,.agg #[.int .i64 lv,.int .i64 f,.int .i64 t]] w (AprR w N ls lv f t):=by
 unfold AprR
 by_cases hlv:lv=0
 · subst hlv
   obtain ⟨T,W,hT,hW,hpr,hTU,hWE⟩:=flat_any w g N ls f t hg hok;have HTU:=Zh hTU;have HWE:=Zh hWE;have HT:=Zh hT;have HW:=Zh hW;have HPR:=Zh hpr;clear hg ho hc hok hP hA hSm hTU hWE hT hW hpr
   go_enter func36,ntmps36
   go_wp2_with fail
   (refine Qai ?_;intro w1 hw1)
   have HB1:=Zh (show Below w.heap.size w w1 by rw [hw1];exact Qag)
   have HZ:=Zh (show Blk w1 w.heap.size 100 #[.int .i64 0,.int .i64 f,.int .i64 t] by rw [hw1];refine Blk.new' _ _ _ ?_;rfl)
   clear hw1;obtain ⟨z0,z1,z2⟩:=HZ.out.three
   go_wp2_with fail
   clear z0 z1 z2;have HSX:=Zh (show ∀ V,Below w1.heap.size w1 V→V.cell? ⟨w.heap.size,1,none⟩=some (.int .i64 f)∧V.cell? ⟨w.heap.size,2,none⟩=some (.int .i64 t) from fun V hV=>((HZ.out.below hV HZ.out.lt).three).2)
   refine wp_region_held_drew (S:=fun V=>Below w1.heap.size w1 V) (by kernel_rfl) (Zr _ _).drew (fun _=>?_);refine tz 0 29 ?_;refine tz 1 30 ?_;refine tz 2 31 ?_;refine tz 3 32 ?_;refine tz 4 33 ?_;refine tz 6 35 ?_;refine tz 7 36 ?_;refine tz 8 37 ?_;refine Zk 5 (fun K hK=>?_);go_simp;with_reducible refine (HTU.out _ (Zb HB1.out (Zr _ _).drew)).mono ?_
   rintro r w2 ⟨rfl,hb2⟩;have hb2':Below w1.heap.size w1 w2:=(Zr _ _).drew.trans hb2;go_simp;refine hK.out _ _ hb2' (fun _=>?_);clear hK K hb2;refine Zk 9 (fun K hK=>?_);go_simp;with_reducible refine (HWE.out w2 (Zb HB1.out hb2')).mono ?_
   rintro r w' ⟨rfl,rfl⟩;go_simp;refine hK.out _ _ hb2' (fun _=>?_);clear hK K;refine Zk 10 (fun K hK=>?_);go_simp;with_reducible refine (Qef w2 T W HT.out HW.out).mono ?_
   rintro r w' ⟨rfl,rfl⟩;go_simp;refine hK.out _ _ hb2' (fun _=>?_);clear hK K;refine tz 11 8 ?_;refine Zd ?_
   go_wp2_with fail
   go_ret
   exact ⟨⟨_,rfl,HPR.out⟩,Zb HB1.out hb2'⟩
 have i0:¬lv=0:=hlv
 by_cases hneg:lv<0
 · have HPR:=Zh (show Qox N ls lv f t 1152921504606846976 from Qkg (fun a b _ _ _ _=>⟨hlv,by rintro ⟨j,l,y,z,e,_⟩;omega⟩))
   clear hg ho hc hok hP hA hSm hlv
   go_enter func36,ntmps36
   go_wp2_with fail
   go_ret
   exact ⟨⟨_,rfl,HPR.out⟩,Qag⟩
 have HLS:=Zh (fun V (hV:Below w.heap.size w V)=>Qkj o N.ar ls V (ho.below hV));obtain ⟨L,hL⟩:∃ L,L=ls.length:=⟨_,rfl⟩;rw [←hL] at HLS;have hL6:L≤6:=by rw [hL];exact hP.l6
 by_cases hhi:lv > (L:Int)
 · have HPR:=Zh (show Qox N ls lv f t 1152921504606846976 from Qkg (fun a b _ _ _ _=>⟨hlv,by rintro ⟨j,l,y,z,e,hl,_⟩;have:=(Zs hl).1;omega⟩))
   have i1:(L:Int)<lv:=hhi
   clear hg ho hc hok hP hA hSm hlv hL
   go_enter func36,ntmps36
   go_wp2_with fail
   (refine Qai ?_;intro w1 hw1)
   have HB1:=Zh (show Below w.heap.size w w1 by rw [hw1];exact Qag)
   have HZ:=Zh (show Blk w1 w.heap.size 100 #[.int .i64 lv,.int .i64 f,.int .i64 t] by rw [hw1];refine Blk.new' _ _ _ ?_;rfl)
   clear hw1;obtain ⟨z0,z1,z2⟩:=HZ.out.three
   go_wp2_with fail
   clear z0 z1 z2;have HSX:=Zh (show ∀ V,Below w1.heap.size w1 V→V.cell? ⟨w.heap.size,0,none⟩=some (.int .i64 lv) from fun V hV=>((HZ.out.below hV HZ.out.lt).three).1)
   refine wp_region_held_drew (S:=fun V=>Below w1.heap.size w1 V) (by kernel_rfl) (Zr _ _).drew (fun _=>?_);refine tz 0 24 ?_;refine tz 1 25 ?_;refine tz 2 26 ?_;refine Zk 3 (fun K hK=>?_);go_simp;with_reducible refine (HLS.out _ (Zb HB1.out (Zr _ _).drew)).mono ?_
   rintro r w' ⟨rfl,rfl⟩;go_simp;refine hK.out _ _ (Zr _ _).drew (fun _=>?_);clear hK K;refine tz 4 28 ?_;refine tz 5 23 ?_;refine Zd ?_;clear HSX;obtain ⟨w2,hw2⟩:∃ W,W=w1.drew:=⟨_,rfl⟩;rw [←hw2];have hb2:Below w1.heap.size w1 w2:=by rw [hw2];exact (Zr _ _).drew
   have HZ2:=Zh (HZ.out.below hb2 HZ.out.lt);have HB2:=Zh (Zb HB1.out hb2);clear hw2 hb2
   go_wp2_with fail
   go_ret
   exact ⟨⟨_,rfl,HPR.out⟩,HB2.out⟩
 have i1:¬((L:Int)<lv):=hhi;have HPT:=Zh (fun V (hV:Below w.heap.size w V)=>Qla o N.ar ls V (ho.below hV) (by omega) (fun l hl=>by have:=(hP.lvl l hl).len;have:=hok.lv;omega));rw [←hL] at HPT;have HEN:=Zh (fun V (hV:Below w.heap.size w V) Q cq (hq:RdT V Q L ls)=>Qrs V g N ls Q L cq lv f (hg.below hV) hq hok hP);have HLE:=Zh (fun V (hV:Below w.heap.size w V) Q cq (hq:RdT V Q L ls)=>Qsx V g N ls Q L cq lv t (hg.below hV) hq hok hP)
 by_cases hen:enF N ls lv f<0∨leF N ls lv t≠enF N ls lv f
 · have HPR:=Zh (show Qox N ls lv f t 1152921504606846976 from Qkg (fun a b e1 e2 _ _=>⟨hlv,Qxx hok hP hen a b e1 e2⟩))
   obtain ⟨ev,hev⟩:∃ ev,ev=enF N ls lv f:=⟨_,rfl⟩;obtain ⟨lw,hlw⟩:∃ ev,ev=leF N ls lv t:=⟨_,rfl⟩;rw [←hev,←hlw] at hen;rw [←hev] at HEN;rw [←hlw] at HLE;clear hg ho hc hok hP hA hSm hlv hL hev hlw
   by_cases h0:ev<0
   · clear hen HLE
     go_enter func36,ntmps36
     go_wp2_with fail
     (refine Qai ?_;intro w1 hw1)
     have HB1:=Zh (show Below w.heap.size w w1 by rw [hw1];exact Qag)
     have HZ:=Zh (show Blk w1 w.heap.size 100 #[.int .i64 lv,.int .i64 f,.int .i64 t] by rw [hw1];refine Blk.new' _ _ _ ?_;rfl)
     clear hw1;obtain ⟨z0,z1,z2⟩:=HZ.out.three
     go_wp2_with fail
     clear z0 z1 z2;have HSX:=Zh (show ∀ V,Below w1.heap.size w1 V→V.cell? ⟨w.heap.size,0,none⟩=some (.int .i64 lv) from fun V hV=>((HZ.out.below hV HZ.out.lt).three).1)
     refine wp_region_held_drew (S:=fun V=>Below w1.heap.size w1 V) (by kernel_rfl) (Zr _ _).drew (fun _=>?_);refine tz 0 24 ?_;refine tz 1 25 ?_;refine tz 2 26 ?_;refine Zk 3 (fun K hK=>?_);go_simp;with_reducible refine (HLS.out _ (Zb HB1.out (Zr _ _).drew)).mono ?_
     rintro r w' ⟨rfl,rfl⟩;go_simp;refine hK.out _ _ (Zr _ _).drew (fun _=>?_);clear hK K;refine tz 4 28 ?_;refine tz 5 23 ?_;refine Zd ?_;clear HSX;obtain ⟨w2,hw2⟩:∃ W,W=w1.drew:=⟨_,rfl⟩;rw [←hw2];have hb2:Below w1.heap.size w1 w2:=by rw [hw2];exact (Zr _ _).drew
     have HZ2:=Zh (HZ.out.below hb2 HZ.out.lt);have HB2:=Zh (Zb HB1.out hb2);clear hw2 hb2
     go_wp2_with fail
     with_reducible refine (HPT.out w2 HB2.out).mono ?_
     rintro r w3 ⟨Q,cq,rfl,hq3,hb3⟩;have HQ3:=Zh (hq3.le (Qbd _ _));have HZ3:=Zh (HZ2.out.below hb3 HZ2.out.lt);have HB3:=Zh (Zb HB2.out hb3);clear hq3 hb3 HPT;obtain ⟨z0,z1,z2⟩:=HZ3.out.three;have zl:=HZ3.out.lt
     go_wp2_with fail
     clear z0 z1 z2 zl
     (refine Qab ?_;intro w4 hw4)
     have hb4:Below w3.heap.size w3 w4:=by rw [hw4];exact Qag
     have HY4:=Zh (show Blk w4 w3.heap.size 132 #[.slice Q L cq] by rw [hw4];refine Blk.new' _ _ _ ?_;rfl)
     clear hw4;have HZ4:=Zh (HZ3.out.below hb4 HZ3.out.lt);have HB4:=Zh (Zb HB3.out hb4);have HQ4:=Zh (HQ3.out.below hb4);clear hb4;with_reducible refine (HEN.out w4 HB4.out Q cq HQ4.out).mono ?_
     rintro r w5 ⟨rfl,hb5⟩;have HZ5:=Zh (HZ4.out.below hb5 HZ4.out.lt);have HY5:=Zh (HY4.out.below hb5 HY4.out.lt);have HB5:=Zh (Zb HB4.out hb5);have HQ5:=Zh (HQ4.out.below hb5);clear hb5 HEN
     go_wp2_with fail
     go_ret
     exact ⟨⟨_,rfl,HPR.out⟩,HB5.out⟩
   · have h1:lw≠ev:=hen.resolve_left h0
     have h2:(lw != ev)=true:=by simpa using h1
     clear hen
     go_enter func36,ntmps36
     go_wp2_with fail
     (refine Qai ?_;intro w1 hw1)
     have HB1:=Zh (show Below w.heap.size w w1 by rw [hw1];exact Qag)
     have HZ:=Zh (show Blk w1 w.heap.size 100 #[.int .i64 lv,.int .i64 f,.int .i64 t] by rw [hw1];refine Blk.new' _ _ _ ?_;rfl)
     clear hw1;obtain ⟨z0,z1,z2⟩:=HZ.out.three
     go_wp2_with fail
     clear z0 z1 z2;have HSX:=Zh (show ∀ V,Below w1.heap.size w1 V→V.cell? ⟨w.heap.size,0,none⟩=some (.int .i64 lv) from fun V hV=>((HZ.out.below hV HZ.out.lt).three).1)
     refine wp_region_held_drew (S:=fun V=>Below w1.heap.size w1 V) (by kernel_rfl) (Zr _ _).drew (fun _=>?_);refine tz 0 24 ?_;refine tz 1 25 ?_;refine tz 2 26 ?_;refine Zk 3 (fun K hK=>?_);go_simp;with_reducible refine (HLS.out _ (Zb HB1.out (Zr _ _).drew)).mono ?_
     rintro r w' ⟨rfl,rfl⟩;go_simp;refine hK.out _ _ (Zr _ _).drew (fun _=>?_);clear hK K;refine tz 4 28 ?_;refine tz 5 23 ?_;refine Zd ?_;clear HSX;obtain ⟨w2,hw2⟩:∃ W,W=w1.drew:=⟨_,rfl⟩;rw [←hw2];have hb2:Below w1.heap.size w1 w2:=by rw [hw2];exact (Zr _ _).drew
     have HZ2:=Zh (HZ.out.below hb2 HZ.out.lt);have HB2:=Zh (Zb HB1.out hb2);clear hw2 hb2
     go_wp2_with fail
     with_reducible refine (HPT.out w2 HB2.out).mono ?_
     rintro r w3 ⟨Q,cq,rfl,hq3,hb3⟩;have HQ3:=Zh (hq3.le (Qbd _ _));have HZ3:=Zh (HZ2.out.below hb3 HZ2.out.lt);have HB3:=Zh (Zb HB2.out hb3);clear hq3 hb3 HPT;obtain ⟨z0,z1,z2⟩:=HZ3.out.three;have zl:=HZ3.out.lt
     go_wp2_with fail
     clear z0 z1 z2 zl
     (refine Qab ?_;intro w4 hw4)
     have hb4:Below w3.heap.size w3 w4:=by rw [hw4];exact Qag
     have HY4:=Zh (show Blk w4 w3.heap.size 132 #[.slice Q L cq] by rw [hw4];refine Blk.new' _ _ _ ?_;rfl)
     clear hw4;have HZ4:=Zh (HZ3.out.below hb4 HZ3.out.lt);have HB4:=Zh (Zb HB3.out hb4);have HQ4:=Zh (HQ3.out.below hb4);clear hb4;with_reducible refine (HEN.out w4 HB4.out Q cq HQ4.out).mono ?_
     rintro r w5 ⟨rfl,hb5⟩;have HZ5:=Zh (HZ4.out.below hb5 HZ4.out.lt);have HY5:=Zh (HY4.out.below hb5 HY4.out.lt);have HB5:=Zh (Zb HB4.out hb5);have HQ5:=Zh (HQ4.out.below hb5);clear hb5 HEN;obtain ⟨z0,z1,z2⟩:=HZ5.out.three;have y0:=HY5.out.cell 0;simp only [Yo,Yn] at y0
     go_wp2_with fail
     with_reducible refine (HLE.out w5 HB5.out Q cq HQ5.out).mono ?_
     rintro r w6 ⟨rfl,hb6⟩;have HB6:=Zh (Zb HB5.out hb6);clear HLE z0 z1 z2 y0
     go_wp2_with fail
     go_ret
     exact ⟨⟨_,rfl,HPR.out⟩,HB6.out⟩
 have he0:0≤enF N ls lv f:=by omega
 have hle:leF N ls lv t=enF N ls lv f:=by
  by_cases h1:leF N ls lv t=enF N ls lv f
  · exact h1
  · exact absurd (.inr h1) hen
 rw [hle] at HLE;obtain ⟨a,b,j,l,y,z,rfl,rfl,rfl,hl,hy,hz,g1,g2,g3,g4⟩:=Qzo he0 hle;obtain ⟨cc,p,q,kk,x,hcc,hx,hp,hq,hp2,hq2,hI⟩:=Qpy hok hP hl hy hz g1 g2 g3;rw [hcc] at g4;rw [g4] at HEN HLE;obtain ⟨v,hv,hpr⟩:=Qtg hA hl hy hz g1 g2 g3 hcc hI;have HPR:=Zh hpr;have HVB:=Zh (hA.cost hok v (Zm hv));have hkn:kk<NC:=by rw [←hc.1];exact (Zs hv).1
 have hNC9:NC≤1000000000:=by rw [←hc.1,hA.1];exact hSm
 have hgl:=Qbn hx;have hla:=hok.la;have HGA:=Zh (fun V (hV:Below w.heap.size w V)=>oGate_ok o j cc N.ar ls l x V (ho.below hV) hl (by omega) hx (by omega));have HPI:=Zh (fun (A1:Option Addr) (n1 c1:Nat) V (hV:RdI V A1 n1 x.1)=>hp▸Qfk A1 n1 c1 x.1 (a:Int) V hV (Qet hx) (by rw [←hV.1];omega));have HPO:=Zh (fun (A1:Option Addr) (n1 c1:Nat) V (hV:RdI V A1 n1 x.2)=>hq▸Qfk A1 n1 c1 x.2 (b:Int) V hV (Qes hx) (by rw [←hV.1];omega));have HAT:=Zh (fun V (hV:Below w.heap.size w V)=>hI.hk.symm▸at_ok o j cc p q N.ar ls l x V (ho.below hV) hl hx (Zs hp2).1 (Zs hq2).1 (by omega) (by omega));have HWE:=Zh (fun V (hV:Below w.heap.size w V)=>Qeb g b N z V (hg.below hV) hz);have HZW:=Zh (show 0≤z.2.2∧z.2.2≤1152921504606846976 by have:=Qdw (hok.arcs z (Zm hz)).w;omega)
 obtain ⟨cb,co,v',rfl,hv',cv⟩:=hc.at_ hkn;rw [hv] at hv'
 cases hv'
 have HCV:=Zh cv;have k3:(kk:Int)<(NC:Int):=by omega
 have k4:(0:Int)≤(kk:Int):=by omega
 have k5:¬(kk:Int)<0:=by omega
 have k6:¬(NC:Int)≤(kk:Int):=by omega
 have h0:¬(cc:Int)<0:=by omega
 have h2:((cc:Int) != (cc:Int))=false:=by simp
 obtain ⟨lv,hlve⟩:∃ lv:Int,lv=(j:Int)+1:=⟨_,rfl⟩;obtain ⟨f,hfe⟩:∃ f:Int,f=(a:Int):=⟨_,rfl⟩;obtain ⟨t,hte⟩:∃ t:Int,t=(b:Int):=⟨_,rfl⟩;rw [←hlve] at i0 i1 hneg HEN HLE HGA HAT HPR ⊢;rw [←hfe] at HEN HPI HPR ⊢;rw [←hte] at HLE HPO HWE HPR ⊢;clear hg ho hc hok hP hA hSm hlv hL hlve hfe hte hen he0 hle g1 g2 g3 g4 hcc hx hp hq hp2 hq2 hI hv hpr cv hl hy hz hgl hla hkn hhi
 go_enter func36,ntmps36
 go_wp2_with fail
 (refine Qai ?_;intro w1 hw1)
 have HB1:=Zh (show Below w.heap.size w w1 by rw [hw1];exact Qag)
 have HZ:=Zh (show Blk w1 w.heap.size 100 #[.int .i64 lv,.int .i64 f,.int .i64 t] by rw [hw1];refine Blk.new' _ _ _ ?_;rfl)
 clear hw1;obtain ⟨z0,z1,z2⟩:=HZ.out.three
 go_wp2_with fail
 clear z0 z1 z2;have HSX:=Zh (show ∀ V,Below w1.heap.size w1 V→V.cell? ⟨w.heap.size,0,none⟩=some (.int .i64 lv) from fun V hV=>((HZ.out.below hV HZ.out.lt).three).1)
 refine wp_region_held_drew (S:=fun V=>Below w1.heap.size w1 V) (by kernel_rfl) (Zr _ _).drew (fun _=>?_);refine tz 0 24 ?_;refine tz 1 25 ?_;refine tz 2 26 ?_;refine Zk 3 (fun K hK=>?_);go_simp;with_reducible refine (HLS.out _ (Zb HB1.out (Zr _ _).drew)).mono ?_
 rintro r w' ⟨rfl,rfl⟩;go_simp;refine hK.out _ _ (Zr _ _).drew (fun _=>?_);clear hK K;refine tz 4 28 ?_;refine tz 5 23 ?_;refine Zd ?_;clear HSX;obtain ⟨w2,hw2⟩:∃ W,W=w1.drew:=⟨_,rfl⟩;rw [←hw2];have hb2:Below w1.heap.size w1 w2:=by rw [hw2];exact (Zr _ _).drew
 have HZ2:=Zh (HZ.out.below hb2 HZ.out.lt);have HB2:=Zh (Zb HB1.out hb2);clear hw2 hb2
 go_wp2_with fail
 with_reducible refine (HPT.out w2 HB2.out).mono ?_
 rintro r w3 ⟨Q,cq,rfl,hq3,hb3⟩;have HQ3:=Zh (hq3.le (Qbd _ _));have HZ3:=Zh (HZ2.out.below hb3 HZ2.out.lt);have HB3:=Zh (Zb HB2.out hb3);clear hq3 hb3 HPT;obtain ⟨z0,z1,z2⟩:=HZ3.out.three;have zl:=HZ3.out.lt
 go_wp2_with fail
 clear z0 z1 z2 zl
 (refine Qab ?_;intro w4 hw4)
 have hb4:Below w3.heap.size w3 w4:=by rw [hw4];exact Qag
 have HY4:=Zh (show Blk w4 w3.heap.size 132 #[.slice Q L cq] by rw [hw4];refine Blk.new' _ _ _ ?_;rfl)
 clear hw4;have HZ4:=Zh (HZ3.out.below hb4 HZ3.out.lt);have HB4:=Zh (Zb HB3.out hb4);have HQ4:=Zh (HQ3.out.below hb4);clear hb4;with_reducible refine (HEN.out w4 HB4.out Q cq HQ4.out).mono ?_
 rintro r w5 ⟨rfl,hb5⟩;have HZ5:=Zh (HZ4.out.below hb5 HZ4.out.lt);have HY5:=Zh (HY4.out.below hb5 HY4.out.lt);have HB5:=Zh (Zb HB4.out hb5);have HQ5:=Zh (HQ4.out.below hb5);clear hb5 HEN;obtain ⟨z0,z1,z2⟩:=HZ5.out.three;have y0:=HY5.out.cell 0;simp only [Yo,Yn] at y0
 go_wp2_with fail
 with_reducible refine (HLE.out w5 HB5.out Q cq HQ5.out).mono ?_
 rintro r w6 ⟨rfl,hb6⟩;have HB6:=Zh (Zb HB5.out hb6);clear HLE z0 z1 z2 y0;have HZ6:=Zh (HZ5.out.below hb6 HZ5.out.lt);clear hb6;obtain ⟨z0,z1,z2⟩:=HZ6.out.three
 go_wp2_with fail
 with_reducible refine (HGA.out w6 HB6.out).mono ?_
 rintro r w7 ⟨A1,n1,c1,A2,n2,c2,rfl,h71,h72,hb7⟩;have HZ7:=Zh (HZ6.out.below hb7 HZ6.out.lt);have HB7:=Zh (Zb HB6.out hb7);clear hb7 HGA z0 z1 z2
 go_wp2_with fail
 (refine Qai ?_;intro w8 hw8)
 have hb8:Below w7.heap.size w7 w8:=by rw [hw8];exact Qag
 have hG8:Blk w8 w7.heap.size 135 #[.slice A1 n1 c1,.slice A2 n2 c2]:=by rw [hw8];refine Blk.new' _ _ _ ?_;rfl
 clear hw8;have HZ8:=Zh (HZ7.out.below hb8 HZ7.out.lt);have HB8:=Zh (Zb HB7.out hb8);have HI8:=Zh (h71.below hb8);have HJ8:=Zh (h72.below hb8)
 have HSX:=Zh (show ∀ V,Below w8.heap.size w8 V→V.cell? ⟨w7.heap.size,0,none⟩=some (.slice A1 n1 c1)∧V.cell? ⟨w7.heap.size,1,none⟩=some (.slice A2 n2 c2)∧V.cell? ⟨w.heap.size,1,none⟩=some (.int .i64 f)∧V.cell? ⟨w.heap.size,2,none⟩=some (.int .i64 t) from fun V hV=>by
  have hG':=hG8.below hV hG8.lt;have hZ':=(HZ8.out.below hV HZ8.out.lt).three;exact ⟨Zq hG',Zq hG',hZ'.2⟩)
 clear hb8 h71 h72 hG8
 go_wp2_with fail
 refine wp_region_held_drew (S:=fun V=>Below w8.heap.size w8 V) (by kernel_rfl) (Zr _ _).drew (fun _=>?_);refine tz 0 67 ?_;refine tz 1 68 ?_;refine tz 2 69 ?_;refine tz 3 70 ?_;refine tz 5 72 ?_;refine tz 6 73 ?_;refine tz 7 74 ?_;refine tz 8 75 ?_;refine Zk 4 (fun K hK=>?_);go_simp;with_reducible refine (HPI.out A1 n1 c1 _ (HI8.out.below (Zr _ _).drew)).mono ?_
 rintro r w9 ⟨rfl,hb9⟩;have hb9':Below w8.heap.size w8 w9:=(Zr _ _).drew.trans hb9;go_simp;refine hK.out _ _ hb9' (fun _=>?_);clear hK K hb9;refine Zk 9 (fun K hK=>?_);go_simp;with_reducible refine (HPO.out A2 n2 c2 _ (HJ8.out.below hb9')).mono ?_
 rintro r wa ⟨rfl,hba⟩;have hba':Below w8.heap.size w8 wa:=Zb hb9' hba;go_simp;refine hK.out _ _ hba' (fun _=>?_);clear hK K hba hb9';refine tz 10 12 ?_;refine tz 11 13 ?_;refine Zd ?_;clear HSX;have HZa:=Zh (HZ8.out.below hba' HZ8.out.lt);have HBa:=Zh (Zb HB8.out hba');clear hba';obtain ⟨z0,z1,z2⟩:=HZa.out.three
 go_wp2_with fail
 with_reducible refine (HAT.out wa HBa.out).mono ?_
 rintro r wb ⟨rfl,hbb⟩;have HZb:=Zh (HZa.out.below hbb HZa.out.lt);have HBb:=Zh (Zb HBa.out hbb);clear hbb z0 z1 z2
 go_wp2_with fail
 have HSX:=Zh (show ∀ V,Below wb.heap.size wb V→V.cell? ⟨w.heap.size,2,none⟩=some (.int .i64 t)∧V.cell? ⟨cb,co+kk,none⟩=some (.int .i64 v) from fun V hV=>⟨((HZb.out.below hV HZb.out.lt).three).2.2,Zc (Zb HBb.out hV) (Zn _) HCV.out⟩)
 refine wp_region_held_drew (S:=fun V=>Below wb.heap.size wb V) (by kernel_rfl) (Zr _ _).drew (fun _=>?_);refine tz 0 92 ?_;refine tz 1 93 ?_;refine tz 2 94 ?_;refine tz 3 95 ?_;refine tz 4 96 ?_;refine tz 5 97 ?_;refine tz 6 98 ?_;refine Zk 7 (fun K hK=>?_);go_simp;with_reducible refine (HWE.out _ (Zb HBb.out (Zr _ _).drew)).mono ?_
 rintro r w' ⟨rfl,rfl⟩;go_simp;refine hK.out _ _ (Zr _ _).drew (fun _=>?_);clear hK K;refine Zk 8 (fun K hK=>?_);go_simp;with_reducible refine (Qef _ v z.2.2 HVB.out HZW.out).mono ?_
 rintro r w' ⟨rfl,rfl⟩;go_simp;refine hK.out _ _ (Zr _ _).drew (fun _=>?_);clear hK K;refine tz 9 8 ?_;refine Zd ?_
 go_wp2_with fail
 go_ret
 exact ⟨⟨_,rfl,HPR.out⟩,HBb.out.drew⟩
end
end Go.Proofs.YtdheeddnkdhfeaaGreatDoor
namespace Go.Proofs.YtdheeddnkdhfeaaGreatDoor
open Go.RowKit Go.Extern.Stop Go.Stop Go.Extern Go.Proofs.Tryz
attribute [local go_sem ↓] Go.wp_at_zero Go.wp_at_succ
def chM:List Qmz:=[(0,0,1),(1,1,3),(0,3,4)]
def chAt:Nat→Int|0=>0|1=>1|2=>3|_=>4
def chSm:Nat→Int|0=>0|1=>11|2=>33|_=>44
theorem Qpu (v a b:Int)(h:inR 6 v∧inR 6 a∧inR 6 b):lvI Qar.vs.length Qbf v a b=((Qfy Qbf v [a,b]:Nat):Int):=by unfold lvI;exact if_pos h
theorem ch_hopsP:HopsP Qar Qbf 0 4 chM chAt chSm 44:=by
 refine ⟨by decide,rfl,rfl,rfl,rfl,fun i x1 x2 x3 hx=>?_⟩
 match i,hx with
 | 0,hx =>
  cases hx
  refine ⟨rfl,by decide,by decide,rfl,?_,⟨by decide,by decide⟩,fun v hv=>?_⟩
  · rw [Qhd 0 (by omega),Qrz,Qpu _ _ _ ⟨⟨by decide,by decide⟩,⟨by decide,by decide⟩,by decide,by decide⟩,Qke (x:=((0:Nat):Int)+1) (by simp) rfl]
  · obtain rfl:=Raa (a:=0) (by omega) hv
    exact ⟨⟨by decide,by decide⟩,by decide⟩
 | 1,hx =>
  cases hx
  refine ⟨rfl,by decide,by decide,rfl,?_,⟨by decide,by decide⟩,fun v hv=>?_⟩
  · rw [Qhd 1 (by omega),Qhd 0 (by omega),Qrz,Qpu _ _ _ ⟨⟨by decide,by decide⟩,⟨by decide,by decide⟩,by decide,by decide⟩,ch_up (by decide)]
  · obtain rfl:=Qyl hv
    exact ⟨⟨by decide,by decide⟩,by decide⟩
 | 2,hx =>
  cases hx
  refine ⟨rfl,by decide,by decide,rfl,?_,⟨by decide,by decide⟩,fun v hv=>?_⟩
  · rw [Qhd 3 (by omega),Qhd 0 (by omega),Qrz,Qpu _ _ _ ⟨⟨by decide,by decide⟩,⟨by decide,by decide⟩,by decide,by decide⟩,Qke (x:=4) (by decide) (by decide)]
  · obtain rfl:=Raa (a:=3) (by omega) hv
    exact ⟨⟨by decide,by decide⟩,by decide⟩
 | k+3,hx=>simp [chM] at hx
set_option maxRecDepth 20000 in
set_option maxHeartbeats 4000000 in
theorem Quv (w:World)(hg:w.cell? ⟨0,0,none⟩=some Qjb):Calls prog 8 #[] w fun e w'=>e=.returned (.bool true)∧Below w.heap.size w w':=by
 have HG:=Zh hg;have hg0:=Qah hg;simp only at hg0;clear hg
 go_enter func8,ntmps8
 go_wp2_with fail
 with_reducible refine (chain_ok w).mono ?_
 unfold ChnP;rintro r w1 ⟨⟨A,B,C,Q,ca,cb,cc,cq,rfl,hn1,hq1⟩,hb1⟩;have HN1:=Zh hn1;have HQ1:=Zh hq1;have HB1:=Zh hb1;clear hn1 hq1 hb1
 go_wp2_with fail
 (refine Qab ?_;intro w2 hw2)
 have hb2:Below w1.heap.size w1 w2:=by rw [hw2];exact Qag
 have HX:=Zh (show Blk w2 w1.heap.size 26 #[.slice A 6 ca,.slice B 5 cb,.slice C 3 cc] by rw [hw2];exact Qay)
 have HY:=Zh (show Blk w2 (w1.heap.size+1) 29 #[.slice Q 1 cq] by rw [hw2];exact Qay)
 clear hw2;have HB2:=Zh (Zb HB1.out hb2);have HN2:=Zh (HN1.out.below hb2);have HQ2:=Zh (HQ1.out.below hb2);clear hb2 HN1 HQ1 HB1;with_reducible refine (Qul A B C Q 6 5 3 ca cb cc 1 cq Qar Qbf w2 HN2.out Qda HQ2.out Qcn (by rw [Qmx];omega)).mono ?_
 unfold Qtl;rintro r w3 ⟨⟨g,o,CB,NC,cl,F,rfl,hNC,hG,hF,hO,hC,hA⟩,hb3⟩;rw [Qmx] at hNC;subst hNC;obtain rfl:=hA.uniq Qkf;have HB3:=Zh (Zb HB2.out hb3);have HX3:=Zh (HX.out.below hb3 HX.out.lt);have HY3:=Zh (HY.out.below hb3 HY.out.lt);have HN3:=Zh (HN2.out.below hb3);have HQ3:=Zh (HQ2.out.below hb3);have HG3:=Zh hG.rd;have HO3:=Zh (hO.le (Qbd _ _));have HC3:=Zh (show RdI w3 (some ⟨CB,0,none⟩) 1 [12] from ⟨hC.1,fun i x hx=>by obtain ⟨b,o,e,h1⟩:=hC.2 i x hx;exact ⟨b,o,e,Qbd _ _ _ _ h1⟩⟩)
 obtain ⟨_,_,v12,e12,hv12,hc12⟩:=HC3.out.at_ (i:=0) (by omega)
 cases e12
 cases hv12
 have hS1:Qca (gatesOf Qar.ar Qbf)≤1000000000:=by rw [Qmx];omega
 have HD1:=Zh (fun V (hV:Below w3.heap.size w3 V)=>show Calls prog 13 #[.pointer (some ⟨g,0,none⟩),.pointer (some ⟨o,0,none⟩),.slice (some ⟨CB,0,none⟩) 1 1,.int .i64 0,.int .i64 4] V _ from Qjd V g o Qar Qbf (some ⟨CB,0,none⟩) 1 1 [12] 0 4 _ _ (HG3.out.below hV) (HO3.out.below hV) (HC3.out.below hV) Qda Qcn Qkf ⟨by omega,by omega⟩ hS1 rfl rfl)
 have HD2:=Zh (fun V (hV:Below w3.heap.size w3 V)=>show Calls prog 32 #[.pointer (some ⟨g,0,none⟩),.pointer (some ⟨o,0,none⟩),.slice (some ⟨CB,0,none⟩) 1 1,.int .i64 0,.int .i64 4] V _ from Qoq V g o Qar Qbf (some ⟨CB,0,none⟩) 1 1 [12] 0 4 _ _ (HG3.out.below hV) (HO3.out.below hV) (HC3.out.below hV) Qda Qcn Qkf ⟨by omega,by omega⟩ hS1 rfl rfl)
 have HD3:=Zh (fun V (hV:Below w3.heap.size w3 V)=>Qwc V g o Qar Qbf (some ⟨CB,0,none⟩) 1 1 1 0 5 1 5 (HG3.out.below hV) (HO3.out.below hV) Qmx.symm (by omega) (by decide));have HD4:=Zh (fun V (hV:Below w3.heap.size w3 V)=>show Calls prog 13 #[.pointer (some ⟨g,0,none⟩),.pointer (some ⟨o,0,none⟩),.slice (some ⟨CB,0,none⟩) 1 1,.int .i64 4,.int .i64 0] V _ from Qjd V g o Qar Qbf (some ⟨CB,0,none⟩) 1 1 [12] 4 0 _ _ (HG3.out.below hV) (HO3.out.below hV) (HC3.out.below hV) Qda Qcn Qkf ⟨by omega,by omega⟩ hS1 rfl rfl)
 have HL1:=Zh (fun V (hV:Below w3.heap.size w3 V)=>ch_lv1▸Qpu 2 0 5 ⟨⟨by decide,by decide⟩,⟨by decide,by decide⟩,by decide,by decide⟩▸Qkv V o Qar.ar Qbf Qar.vs.length 2 0 5 (HO3.out.below hV) Qcn (by decide));have HL2:=Zh (fun V (hV:Below w3.heap.size w3 V)=>ch_lv0▸Qpu 2 3 5 ⟨⟨by decide,by decide⟩,⟨by decide,by decide⟩,by decide,by decide⟩▸Qkv V o Qar.ar Qbf Qar.vs.length 2 3 5 (HO3.out.below hV) Qcn (by decide));have HPC:=Zh (fun V (hV:Below w3.heap.size w3 V) f u=>Qrx V g o Qar Qbf (some ⟨CB,0,none⟩) 1 1 [12] 1 f u (HG3.out.below hV) (HO3.out.below hV) (HC3.out.below hV) Qda Qcn Qkf hS1);have HNW:=Zh (fun V (hV:Below w3.heap.size w3 V)=>Qsc A B C Q 6 5 3 ca cb cc 1 cq Qar Qbf V (HN3.out.below hV) Qda (HQ3.out.below hV) Qcn hS1);clear hG hF hO hC hA hb3 HN2 HQ2 HB2 HX HY
 go_wp2_with fail
 with_reducible refine (HD1.out w3 (Zr _ _)).mono ?_
 rintro r w4 ⟨⟨v,rfl,hv⟩,hb4⟩;obtain rfl:v=44:=hv.uniq (.inr ⟨by decide,Qxa⟩);clear hv HD1 hc12
 go_wp2_with fail
 with_reducible refine (HD2.out w4 hb4).mono ?_
 unfold SrcP;rintro r w5 ⟨⟨v,A9,n9,c9,hs,rfl,_,hrun,hh,hn9⟩,hb5⟩;obtain ⟨rfl,hmap⟩:=ch_run hrun;rw [hmap,show ([(0,0,1),(1,1,3),(0,3,4)]:List Qmz)=chM from rfl] at hh
 obtain rfl:n9=3:=by rw [←hh.1];rfl
 have hb5':=Zb hb4 hb5;have HH5:=Zh hh;clear hrun hmap hh hn9 HD2 hb4 hb5
 go_wp2_with fail
 (refine Qab ?_;intro w6 hw6)
 have hb6:Below w5.heap.size w5 w6:=by rw [hw6];exact Qag
 have HF6:=Zh (show Blk w6 w5.heap.size 91 #[.int .i64 44,.slice A9 3 c9] by rw [hw6];exact Qay)
 clear hw6;have hb6':=Zb hb5' hb6;have HH6:=Zh (HH5.out.le (Le.below hb6));clear hb6 hb5' HH5;with_reducible refine (HD3.out w6 hb6').mono ?_
 rintro r w7 ⟨⟨v7,rfl,hch7⟩,hb7⟩;have hb7':=Zb hb6' hb7;have HH7:=Zh (HH6.out.le (Le.below hb7));have HF7:=Zh (HF6.out.below hb7 HF6.out.lt);have HCH7:=Zh hch7;obtain ⟨tv7,xv7,rfl⟩:=Qbj hch7;clear hch7 hb7 hb6' HH6 HF6 HD3
 go_wp2_with fail
 with_reducible refine (HD4.out w7 hb7').mono ?_
 rintro r w8 ⟨⟨v,rfl,hv⟩,hb8⟩;obtain rfl:=ch_run0 hv;have HB8:=Zh (Zb hb7' hb8);have HH8:=Zh (HH7.out.le (Le.below hb8));have HF8:=Zh (HF7.out.below hb8 HF7.out.lt);have HCH8:=Zh (HCH7.out.below hb8);have HX8:=Zh (HX3.out.below HB8.out HX3.out.lt);have HY8:=Zh (HY3.out.below HB8.out HY3.out.lt);clear hv hb8 hb7' HH7 HF7 HCH7 HD4 HX3 HY3
 have HSX:=Zh (show ∀ V,Below w8.heap.size w8 V→V.cell? ⟨w1.heap.size,0,none⟩=some (.slice A 6 ca)∧V.cell? ⟨w1.heap.size,1,none⟩=some (.slice B 5 cb)∧V.cell? ⟨w1.heap.size,2,none⟩=some (.slice C 3 cc)∧V.cell? ⟨w1.heap.size+1,0,none⟩=some (.slice Q 1 cq)∧V.cell? ⟨w5.heap.size,0,none⟩=some (.int .i64 44)∧V.cell? ⟨w5.heap.size,1,none⟩=some (.slice A9 3 c9) from fun V hV=>by
  have hX':=HX8.out.below hV HX8.out.lt;have hY':=HY8.out.below hV HY8.out.lt;have hF':=HF8.out.below hV HF8.out.lt;exact ⟨Zq hX',Zq hX',Zq hX',Zq hY',Zq hF',Zq hF'⟩)
 go_wp2_with fail
 refine wp_region_held_drew (S:=fun V=>Below w8.heap.size w8 V) (by kernel_rfl) (Zr _ _).drew (fun _=>?_);refine tz 0 68 ?_;refine tz 1 69 ?_;refine tz 2 70 ?_;refine tz 3 71 ?_;refine tz 4 72 ?_;refine tz 5 73 ?_;refine tz 6 74 ?_;refine tz 7 75 ?_;refine tz 8 76 ?_;refine tz 9 77 ?_;refine tz 10 78 ?_;refine tz 11 79 ?_;refine tz 12 80 ?_;refine tz 13 81 ?_;refine tz 14 82 ?_;refine tz 15 83 ?_;refine tz 16 84 ?_;refine tz 17 85 ?_;refine tz 18 86 ?_;refine tz 20 88 ?_;refine tz 21 89 ?_;refine tz 22 90 ?_;refine Zk 19 (fun K hK=>?_);go_simp;with_reducible refine (HNW.out _ (Zb HB8.out (Zr _ _).drew)).mono ?_
 unfold Qzy;rintro r w9 ⟨G,cg,AE,ce,EL,rfl,hG9,hE9,hEl,hEP,hb9⟩;have hb9':Below w8.heap.size w8 w9:=(Zr _ _).drew.trans hb9;have HO9:=Zh (show OvD w9 Q G AE 1 EL.length Qar Qbf EL from ⟨HQ3.out.below (Zb HB8.out hb9'),hG9,hE9,rfl,hEl,hEP,by rw [hEl,Qmx];omega⟩)
 obtain ⟨S9,hS9⟩:∃ S,S=EL.length:=⟨_,rfl⟩;rw [←hS9] at HO9 ⊢;clear hG9 hE9 hEl hEP hb9 hS9 HNW;go_simp;refine hK.out _ _ hb9' (fun _=>?_);clear hK K;refine Zk 23 (fun K hK=>?_);go_simp;with_reducible refine (of21_ok A9 3 c9 chM w9 (HH8.out.le (Le.below hb9')) (by omega)).mono ?_
 rintro r wa ⟨⟨Aa,ca',rfl,hha⟩,hba⟩;have hba':=Zb hb9' hba;have HOa:=Zh (HO9.out.below hba);have HHa:=Zh hha;go_simp;refine hK.out _ _ hba' (fun _=>?_);clear hK K hba hha HO9 hb9';refine Zk 24 (fun K hK=>?_);go_simp;with_reducible refine (show Calls prog 33 #[.agg #[.slice A 6 ca,.slice B 5 cb,.slice C 3 cc],.agg #[.slice A 6 ca,.slice B 5 cb,.slice C 3 cc,.slice Q 1 cq,.slice G 1 cg,.slice AE S9 ce],.slice (some ⟨CB,0,none⟩) 1 1,.int .i64 0,.int .i64 4,.int .i64 44,.slice Aa 3 ca'] wa _ from Qvd A B C Q G AE 6 5 3 ca cb cc 1 cq cg S9 ce Qar Qbf EL (some ⟨CB,0,none⟩) 1 1 [12] 0 4 44 Aa 3 ca' chM chAt chSm _ _ wa (HN3.out.below (Zb HB8.out hba')) Qda Qcn HOa.out (HC3.out.below (Zb HB8.out hba')) Qkf HHa.out (by omega) rfl rfl (by omega) (by decide) ch_hopsP).mono ?_
 rintro r wb ⟨rfl,hbb⟩;have hbb':=Zb hba' hbb;go_simp;refine hK.out _ _ hbb' (fun _=>?_);clear hK K hbb hba' HOa HHa HH8;refine tz 25 93 ?_;refine tz 26 94 ?_;refine tz 27 95 ?_;refine tz 28 96 ?_;refine tz 29 97 ?_;refine tz 30 98 ?_;refine tz 31 99 ?_;refine tz 32 100 ?_;refine tz 33 101 ?_;refine Zk 34 (fun K hK=>?_);go_simp;with_reducible refine (Qzz (⟨#[97,115,107]⟩:ByteArray) 1 5 wb).mono ?_
 rintro r wc ⟨_,rfl,⟨A4,n4,m4,rfl,h4,h5⟩,hbc⟩;have hbc':=Zb hbb' hbc;have HR4:=Zh h4;go_simp;refine hK.out _ _ hbc' (fun _=>?_);clear hK K hbc hbb' h4;refine Zk 35 (fun K hK=>?_);go_simp;with_reducible refine (Qot (.iface tv7 xv7) A4 n4 m4 [((⟨#[97,115,107]⟩:ByteArray),1)] 5 wc (HCH8.out.below hbc') HR4.out (by omega) (Zc (Zb HB3.out (Zb HB8.out hbc')) (Zn _) HG.out) (by omega)).mono ?_
 rintro r wd ⟨rfl,hbd⟩;have hbd':=Zb hbc' hbd;go_simp;refine hK.out _ _ hbd' (fun _=>?_);clear hK K hbd hbc' HR4;refine tz 36 104 ?_;refine tz 37 105 ?_;refine tz 38 106 ?_;refine tz 39 107 ?_;refine tz 40 108 ?_;refine tz 41 109 ?_;refine tz 42 110 ?_;refine tz 43 111 ?_;refine tz 44 112 ?_;refine tz 45 113 ?_;refine tz 46 114 ?_;refine Zk 47 (fun K hK=>?_);go_simp;with_reducible refine (HL1.out wd (Zb HB8.out hbd')).mono ?_
 rintro r we ⟨rfl,hbe⟩;have hbe':=Zb hbd' hbe;go_simp;refine hK.out _ _ hbe' (fun _=>?_);clear hK K hbe hbd';refine tz 48 116 ?_;refine tz 49 117 ?_;refine tz 50 118 ?_;refine tz 51 119 ?_;refine Zk 52 (fun K hK=>?_);go_simp;with_reducible refine (HL2.out we (Zb HB8.out hbe')).mono ?_
 rintro r wf ⟨rfl,hbf⟩;have hbf':=Zb hbe' hbf;go_simp;refine hK.out _ _ hbf' (fun _=>?_);clear hK K hbf hbe';refine tz 53 121 ?_;refine tz 54 122 ?_;refine tz 55 123 ?_;refine tz 56 124 ?_;refine tz 57 125 ?_;refine tz 58 126 ?_;refine tz 59 127 ?_;refine Zk 60 (fun K hK=>?_);go_simp;with_reducible refine (HPC.out wf (Zb HB8.out hbf') 1 3).mono ?_
 unfold AprR;rintro r wg ⟨⟨v,rfl,hv⟩,hbg⟩;obtain rfl:=Qyl hv;have hbg':=Zb hbf' hbg;go_simp;refine hK.out _ _ hbg' (fun _=>?_);clear hK K hbg hbf' hv;refine tz 61 129 ?_;refine tz 62 130 ?_;refine tz 63 131 ?_;refine tz 64 132 ?_;refine tz 65 133 ?_;refine tz 66 134 ?_;refine tz 67 135 ?_;refine Zk 68 (fun K hK=>?_);go_simp;with_reducible refine (HPC.out wg (Zb HB8.out hbg') 1 2).mono ?_
 unfold AprR;rintro r wh ⟨⟨v,rfl,hv⟩,hbh⟩;obtain rfl:=ch_prc2 hv;have hbh':=Zb hbg' hbh;go_simp;refine hK.out _ _ hbh' (fun _=>?_);clear hK K hbh hbg' hv;refine tz 69 137 ?_;refine tz 70 138 ?_;refine tz 71 0 ?_;refine Zd ?_
 go_wp2_with fail
 go_ret
 exact ⟨rfl,Zb HB3.out (Zb HB8.out hbh')⟩
end Go.Proofs.YtdheeddnkdhfeaaGreatDoor
namespace Go.Proofs.YtdheeddnkdhfeaaGreatDoor
open Go.RowKit Go.Proofs.Tryz
attribute [local go_sem ↓] Go.wp_at_zero Go.wp_at_succ
theorem Qrh {n:Nat} {p:Option (List Int)} {l:List Int} (h:Qfa n p l=0):Qfz n l∧∀ q,p=some q→Qdx q l:=by
 unfold Qfa at h
 split at h
 · cases h
 · split at h
   · assumption
   · cases h
set_option maxHeartbeats 2000000 in
set_option maxRecDepth 20000 in
theorem Qnk (Q:Option Addr)(n L cq:Nat) (ls:List (List Int)) (w:World) (h:RdT w Q L ls) :
 Calls prog 86 #[.int .i64 n,.agg #[.slice Q L cq],.slice none 0 0] w fun e w'=>Qby (Qbc n ls) e∧Below w.heap.size w w':=by
 have HT:=Zh h;clear h
 by_cases q0:(n:Int) > 4096
 · go_enter func86,ntmps86
   go_wp2_with fail
   (refine Qab ?_;intro w5 hw5)
   have hB5:Blk w5 (w.heap.size+1) 66 #[.slice none 0 0,.int .i64 0]:=by rw [hw5];exact Qay
   have hb5:Below w.heap.size w w5:=by rw [hw5];exact Qag
   exact Kbk
 by_cases q1:(L:Int) > 6
 · go_enter func86,ntmps86
   go_wp2_with fail
   (refine Qab ?_;intro w5 hw5)
   have hB5:Blk w5 (w.heap.size+1) 66 #[.slice none 0 0,.int .i64 0]:=by rw [hw5];exact Qay
   have hb5:Below w.heap.size w w5:=by rw [hw5];exact Qag
   exact Kbk
 by_cases q2:L=0
 · have j1:((L:Int) == 0)=true:=by simp;exact q2
   go_enter func86,ntmps86
   go_wp2_with fail
   (refine Qab ?_;intro w5 hw5)
   have hB5:Blk w5 (w.heap.size+1) 66 #[.slice none 0 0,.int .i64 0]:=by rw [hw5];exact Qay
   have hb5:Below w.heap.size w w5:=by rw [hw5];exact Qag
   clear hw5;with_reducible refine (Qba _ _ _ _).mono ?_
   rintro e w2 ⟨⟨A4,n4,m4,rfl,hg4⟩,hb⟩;have hB2:=Blk.below hB5 hb hB5.lt;obtain ⟨c0,c1,f0,f1⟩:=hB2.two;have hb2:Below w.heap.size w w2:=Zb hb5 hb
   go_wp2_with fail
   refine bodyPost_ret (v:=.agg #[.slice A4 n4 m4,.int .i64 1]) (by simp [results,results86,go_sem,c0,c1]) rfl ?_
   exact Kaj
 have j1:((L:Int) == 0)=false:=by simp;exact q2
 go_enter func86,ntmps86
 go_wp2_with fail
 (refine Qai ?_;intro w1 hw1)
 have hb1:Below w.heap.size w w1:=by rw [hw1];exact Qag
 have hQ:Blk w1 w.heap.size 29 #[.slice Q L cq]:=by rw [hw1];exact Qay
 have hB:Blk w1 (w.heap.size+1) 66 #[.slice none 0 0,.int .i64 0]:=by rw [hw1];exact Qay
 clear hw1
 go_loopw [7] (fun q W=>Below w.heap.size w W∧Blk W w.heap.size 29 #[.slice Q L cq]∧Blk W (w.heap.size+1) 66 #[.slice none 0 0,.int .i64 0]∧∃ i:Nat,i≤L∧q=.int .i64 ((i:Int)+1)∧∀ (j:Nat) (l:List Int),j<i→ls[j]?=some l→Qfz n l∧∀ q,Qfx ls j=some q→Qdx q l) (fun q _=>L+1-(intOf q).toNat)
 case atStart=>exact ⟨hb1,hQ,hB,0,Nat.zero_le _,rfl,fun _ _ h=>absurd h (Nat.not_lt_zero _)⟩
 case round =>
  clear hb1 hQ hB;obtain ⟨hbl,hQ,hB,i,hi,rfl,hall⟩:=hrel;have HA:=Zh hall;clear hall;have y0:=hQ.cell 0;simp only [Yo,Yn] at y0
  by_cases hlt:i<L
  · obtain ⟨l,hl⟩:∃ l,ls[i]?=some l:=⟨_,Zg (by rw [HT.out.1];exact hlt)⟩
    have HCL:=Zh (Qlr Q n L cq i ls l wr (HT.out.below hbl) hl (by omega) (by omega) (fun j p e hp=>(HA.out j p (by omega) hp).1.len));have HLL:=Zh hl;have HI:=Zh (@Qrh n (Qfx ls i) l);have i1:(i:Int)+1≤(L:Int):=by omega
    clear hl;generalize Qfa n (Qfx ls i) l=code at *
    go_wp2_with fail
    with_reducible refine HCL.out.mono ?_
    rintro e w2 ⟨rfl,hb2⟩;have hQ2:=hQ.below hb2 hQ.lt;have hB2:=hB.below hb2 hB.lt;have hbw2:=Zb hbl hb2;clear hQ hB y0 HCL hb2
    by_cases hc:code=0
    · subst hc
      have HO:=Zh (HI.out rfl);clear HI
      go_wp2_with fail
      go_roundw
      case rel=>exact ⟨hbw2,hQ2,hB2,i+1,by omega,by go_num,fun j l' hj hl'=>by
       by_cases e:j=i
       · subst e
         rw [HLL.out] at hl'
         cases hl'
         exact HO.out
       · exact HA.out j l' (by omega) hl'⟩
      case measure=>simp [intOf];omega
    · have e1:(code == 0)=false:=by simpa using hc
      have e2:(code != 0)=true:=by simpa using hc
      have HC:=Zh hc;clear hc
      go_wp2_with fail
      with_reducible refine (Qba _ _ _ _).mono ?_
      rintro e w3 ⟨⟨A4,n4,m4,rfl,hg4⟩,hb3⟩;have hB3:=hB2.below hb3 hB2.lt;obtain ⟨c0,c1,f0,f1⟩:=hB3.two;have hbw3:=Zb hbw2 hb3
      go_wp2_with fail
      refine bodyPost_ret (v:=.agg #[.slice A4 n4 m4,.int .i64 code]) (by simp [results,results86,go_sem,c0,c1]) rfl ?_;exact ⟨Qby.no HC.out,Qag⟩
  · obtain rfl:L=i:=by omega
    obtain ⟨c0,c1,f0,f1⟩:=hB.two;have zB:=hB.lt
    have HP:=Zh (show Qbc n ls from ⟨by rw [HT.out.1];omega,by rw [HT.out.1];omega,fun l hl=>by
     obtain ⟨j,hj⟩:=Yr hl;exact (HA.out j l (by rw [←HT.out.1];exact (Zs hj).1) hj).1,fun j p l hp hl=>(HA.out (j+1) l (by rw [←HT.out.1];exact (Zs hl).1) hl).2 p (by rw [Qhh];exact hp)⟩)
    clear HA
    go_wp2_with fail
    refine bodyPost_ret (v:=.agg #[.slice none 0 0,.int .i64 0]) (by simp [results,results86,go_sem,c0,c1]) rfl ?_;exact ⟨⟨_,_,_,_,rfl,.inl ⟨rfl,HP.out⟩⟩,Qag⟩
structure FewP (ls:List (List Int)):Prop where
 l:ls.length≤10
 r:∀ l∈ls,l.length≤60
set_option maxHeartbeats 1000000 in
theorem fewP_any (Q:Option Addr)(L cq:Nat) (ls:List (List Int)) (w:World) (h:RdT w Q L ls) (hL:L≤9223372036854775807) :
 Calls prog 85 #[.agg #[.slice Q L cq]] w fun e w'=>Qio (FewP ls) e∧Below w.heap.size w w':=by
 have HT:=Zh h;have HLE:=Zh h.1;clear h
 go_enter func85,ntmps85
 go_wp2_with fail
 (refine Qai ?_;intro w1 hw1)
 have hb1:Below w.heap.size w w1:=by rw [hw1];exact Qag
 have hQ:Blk w1 w.heap.size 29 #[.slice Q L cq]:=by rw [hw1];exact Qay
 have H1:=Zh (HT.out.below hb1);clear hw1;have y0:=hQ.cell 0;simp only [Yo,Yn] at y0
 go_loop [3] (fun q=>∃ i:Nat,i≤L∧q=.int .i64 i∧∀ j l,j<i→ls[j]?=some l→l.length≤60) (fun q=>L-(intOf q).toNat)
 case atStart=>exact ⟨0,Nat.zero_le _,rfl,fun _ _ h=>absurd h (Nat.not_lt_zero _)⟩
 case round =>
  obtain ⟨i,hi,rfl,hall⟩:=hrel;have HA:=Zh hall;clear hall
  by_cases hlt:i<L
  · obtain ⟨b,o,A,n,c,l,rfl,hl,hc,hr,q1,q2⟩:=H1.out.at_ hlt
    have i1:(0:Int)≤(i:Int):=by omega
    have i2:(i:Int)<(L:Int):=by omega
    have HLL:=Zh hl;have HR:=Zh hr.1;clear hl hr
    by_cases q3:(n:Int) > 60
    · go_wp2_with fail
      go_ret
      exact ⟨⟨false,rfl,fun h=>by cases h⟩,hb1⟩
    · go_wp2_with fail
      go_round
      case rel=>exact ⟨i+1,by omega,by go_num,fun j l' hj hl'=>by
       by_cases e:j=i
       · subst e
         rw [HLL.out] at hl'
         cases hl'
         rw [HR.out];omega
       · exact HA.out j l' (by omega) hl'⟩
      case measure=>simp [intOf];omega
  · obtain rfl:L=i:=by omega
    go_wp2_with fail
    go_ret
    refine ⟨⟨_,rfl,fun h=>⟨by rw [HLE.out];have:=of_decide_eq_true h;omega,fun l hl=>?_⟩⟩,hb1⟩;obtain ⟨j,hj⟩:=Yr hl;exact HA.out j l (by rw [←HLE.out];exact (Zs hj).1) hj
set_option maxHeartbeats 1000000 in
theorem Qxs (Q:Option Addr)(n L cq:Nat) (ls:List (List Int)) (w:World) (h:RdT w Q L ls) (hL:L≤9223372036854775807) :
 Calls prog 38 #[.int .i64 n,.agg #[.slice Q L cq]] w fun e w'=>Qio (FewP ls∧n≤60∧Qbc n ls) e∧Below w.heap.size w w':=by
 have HT:=Zh h;clear h
 go_enter func38,ntmps38
 go_wp2_with fail
 (refine Qab ?_;intro w1 hw1)
 have hb1:Below w.heap.size w w1:=by rw [hw1];exact Qag
 have hQ:Blk w1 w.heap.size 29 #[.slice Q L cq]:=by rw [hw1];exact Qay
 clear hw1;with_reducible refine (fewP_any Q L cq ls w1 (HT.out.below hb1) hL).mono ?_
 rintro e w2 ⟨⟨bb,rfl,hf⟩,hb2⟩;have hbw2:=Zb hb1 hb2;have y0:=(hQ.below hb2 hQ.lt).cell 0;simp only [Yo,Yn] at y0;clear hQ hb2
 cases bb
 · go_wp2_with fail
   exact Kcy
 have HF:=Zh (hf rfl);clear hf
 by_cases q0:(n:Int)≤60
 rotate_left
 · go_wp2_with fail
   exact Kcy
 go_wp2_with fail
 with_reducible refine (Qnk Q n L cq ls w2 (HT.out.below hbw2)).mono ?_
 rintro e w3 ⟨⟨A4,k4,c4,x,rfl,hx⟩,hb3⟩;have hbw3:=Zb hbw2 hb3;have hfe:=Qtr A4 k4 c4 x w3;clear y0
 rcases hx with ⟨rfl,hG⟩|hx
 · have HG:=Zh hG
   clear hG
   go_wp2_with fail
   go_ret
   exact ⟨⟨true,rfl,fun _=>⟨HF.out,by omega,HG.out⟩⟩,hbw3⟩
 · go_wp2_with fail
   go_ret
   exact ⟨⟨_,rfl,fun h=>absurd (by simpa using h) hx⟩,hbw3⟩
structure MayOk (N:Qak) (ls:List (List Int)):Prop where
 small:Qys N
 few:FewP ls
 part:Qbc N.vs.length ls
set_option maxHeartbeats 1000000 in
theorem Rak (A B C Q:Option Addr)(n m k c d e L cq:Nat)(N:Qak) (ls:List (List Int)) (w:World) (h:Qbg w A B C n m k N) (hk:k≤9223372036854775807) (hq:RdT w Q L ls) (hL:L≤9223372036854775807) :
 Calls prog 9 #[.agg #[.slice A n c,.slice B m d,.slice C k e],.agg #[.slice Q L cq]] w fun e w'=>Qio (MayOk N ls) e∧Below w.heap.size w w':=by
 have HH:=Zh h;have HT:=Zh hq;have HLV:=Zh h.1.1;clear h hq
 go_enter func9,ntmps9
 go_wp2_with fail
 (refine Qab ?_;intro w1 hw1)
 have hb1:Below w.heap.size w w1:=by rw [hw1];exact Qag
 have hN:Blk w1 w.heap.size 26 #[.slice A n c,.slice B m d,.slice C k e]:=by rw [hw1];exact Qay
 have hQ:Blk w1 (w.heap.size+1) 29 #[.slice Q L cq]:=by rw [hw1];exact Qay
 clear hw1;with_reducible refine (Qzt A B C n m k c d e N w1 (HH.out.below hb1) hk).mono ?_
 rintro r w2 ⟨⟨bb,rfl,hf⟩,hb2⟩;have hbw2:=Zb hb1 hb2;have y0:=(hQ.below hb2 hQ.lt).cell 0;simp only [Yo,Yn] at y0;obtain ⟨n0,n1,n2⟩:=(hN.below hb2 hN.lt).three;clear hQ hb2 hN
 cases bb
 · go_wp2_with fail
   exact Kcy
 have HF:=Zh (hf rfl);clear hf
 go_wp2_with fail
 with_reducible refine (Qxs Q n L cq ls w2 (HT.out.below hbw2) hL).mono ?_
 rintro r w3 ⟨⟨bb,rfl,hf⟩,hb3⟩;have HF2:=Zh hf;have hbw3:=Zb hbw2 hb3;clear hf
 go_wp2_with fail
 go_ret
 exact ⟨⟨bb,rfl,fun h=>⟨HF.out,(HF2.out h).1,by rw [HLV.out];exact (HF2.out h).2.2⟩⟩,hbw3⟩
theorem Qtp {N:Qak} {ls:List (List Int)} (h:MayOk N ls):Qca (gatesOf N.ar ls)≤1000000000:=by
 have hA:=h.small.a;have hv:=h.small.v;have h6:=h.part.l6
 have hx:∀ x∈(gatesOf N.ar ls).map Qdy,x≤194400:=fun z hz=>by
  obtain ⟨row,hr,rfl⟩:=List.mem_map.1 hz;obtain ⟨l,hl,rfl⟩:=List.mem_map.1 hr
  have hm:∀ y∈(gateRow N.ar l).map szG,y≤8100:=fun y hy=>by
   obtain ⟨x,hx,rfl⟩:=List.mem_map.1 hy;obtain ⟨c,hc⟩:=Yr hx;have g:=Qbn hc;unfold szG;have:=Nat.mul_le_mul (show x.1.length≤90 by omega) (show x.2.length≤90 by omega)
   omega
  have h1:=Qtk hm;have h2:=h.part.lvl l hl;have h3:=Qcm (l:=l) (n:=(N.vs.length:Int)) (fun x hx=>h2.hi x hx) (by omega);rw [List.length_map,Qau] at h1;have h4:(Qav l).toNat*8100≤24*8100:=Nat.mul_le_mul_right _ (by omega);unfold Qdy;omega
 have h1:=Qtk hx;rw [List.length_map,show (gatesOf N.ar ls).length=ls.length by simp [gatesOf]] at h1
 have h4:ls.length*194400≤6*194400:=Nat.mul_le_mul_right _ (by omega);unfold Qca;omega
def GG (B:Nat)(V:World)(A1 A2:Option Addr):Nat→Prop:=fun b=>B≤b∧b<V.heap.size∧Qac A1≠some b∧Qac A2≠some b
def RwR (V:World)(G:Nat→Prop)(xs:List Value) (ls:List (List Int)):Prop:=∀ (j:Nat) (l:List Int),ls[j]?=some l→∃ (R:Option Addr) (d:Nat),xs[j]?=some (.slice R l.length d)∧RdI (msk V G) R l.length l∧l.length≤d∧d≤9223372036854775807
theorem RwR.le {V V':World}{G G':Nat→Prop}{xs:List Value} {ls:List (List Int)} (h:RwR V G xs ls) (hl:Le (msk V G) (msk V' G')):RwR V' G' xs ls:=fun j l hj=>by
 obtain ⟨R,d,h1,h2,h3⟩:=h j l hj;exact ⟨R,d,h1,h2.le hl,h3⟩
structure Tw (t1 t2:TypeId) (B:Nat) (V:World) (A1:Option Addr) (c1:Nat) (x1:List Value) (l1:List (List Int)) (A2:Option Addr) (c2:Nat) (x2:List Value) (l2:List (List Int)):Prop where
 o1:Own V B t1 1 A1 l1.length c1 x1
 o2:Own V B t2 1 A2 l2.length c2 x2
 r1:RwR V (GG B V A1 A2) x1 l1
 r2:RwR V (GG B V A1 A2) x2 l2
 dj:∀ g,Qac A1=some g→Qac A2≠some g
section
variable {t1 t2:TypeId} {B:Nat} {V V':World} {A1 A2:Option Addr} {c1 c2:Nat} {x1 x2:List Value} {l1 l2:List (List Int)}
theorem Tw.nil (t1 t2:TypeId)(B:Nat)(V:World):Tw t1 t2 B V none 0 [] [] none 0 [] []:=⟨Own.nil _ _ _ _,Own.nil _ _ _ _,fun j l h=>by simp at h,fun j l h=>by simp at h,fun g e=>by cases e⟩
theorem Tw.swap (h:Tw t1 t2 B V A1 c1 x1 l1 A2 c2 x2 l2):Tw t2 t1 B V A2 c2 x2 l2 A1 c1 x1 l1 :=
 have hm:Le (msk V (GG B V A1 A2)) (msk V (GG B V A2 A1)):=Qbe (fun _ hb=>⟨hb.1,hb.2.1,hb.2.2.2,hb.2.2.1⟩)
 ⟨h.o2,h.o1,h.r2.le hm,h.r1.le hm,fun g e e2=>h.dj g e2 e⟩
theorem Tw.below (h:Tw t1 t2 B V A1 c1 x1 l1 A2 c2 x2 l2)(hb:Below V.heap.size V V'):Tw t1 t2 B V' A1 c1 x1 l1 A2 c2 x2 l2 :=
 have hm:Le (msk V (GG B V A1 A2)) (msk V' (GG B V' A1 A2)):=(Qbb.msk (Qbb.below hb)).trans (Qbe (fun _ hb'=>⟨hb'.1,Yu hb'.2.1 hb.size,hb'.2.2⟩))
 ⟨h.o1.below hb,h.o2.below hb,h.r1.le hm,h.r2.le hm,h.dj⟩
theorem Tw.set (h:Tw t1 t2 B V A1 c1 x1 l1 A2 c2 x2 l2){b:Nat}(hb:b<B)(o:Nat)(v:Value):Tw t1 t2 B (V.setCell ⟨b,o,none⟩ v) A1 c1 x1 l1 A2 c2 x2 l2:=by
 have hg:=Qaa V b o v;have hm:Le (msk V (GG B V A1 A2)) (msk (V.setCell ⟨b,o,none⟩ v) (GG B (V.setCell ⟨b,o,none⟩ v) A1 A2)):=(Qbb.msk (Qbb.set V b o v (fun e=>by have:=e.1;omega))).trans (Qbe (fun q hq=>⟨hq.1,Yu hq.2.1 hg.size,hq.2.2⟩));exact ⟨h.o1.far hg (.inr (fun e=>by have:=(h.o1.lt b e).1;omega)),h.o2.far hg (.inr (fun e=>by have:=(h.o2.lt b e).1;omega)),h.r1.le hm,h.r2.le hm,h.dj⟩
theorem Tw.push {R A3:Option Addr}{d c3:Nat}{l:List Int}(h:Tw t1 t2 B V A1 c1 x1 l1 A2 c2 x2 l2) (hr:RdI (msk V (GG B V A1 A2)) R l.length l) (k1:l.length≤d) (k2:d≤9223372036854775807)
 (ho:Own V' B t1 1 A3 (l1.length+1) c3 (x1 ++[.slice R l.length d])) (hg:V.grownBy V' (Qac A1)) (hat:Qac A3=Qac A1∨Qac A3=some V.heap.size):Tw t1 t2 B V' A3 c3 (x1 ++[.slice R l.length d]) (l1 ++[l]) A2 c2 x2 l2:=by
 have hxl:x1.length=l1.length:=by rw [h.o1.1,Nat.mul_one]
 have hm:Le (msk V (GG B V A1 A2)) (msk V' (GG B V' A3 A2)):=(Qbb.msk (Qbb.grown hg (fun b hb=>hb.2.2.1))).trans (Qbe (fun q hq=>⟨hq.1,Yu hq.2.1 hg.size,fun e=>by
  rcases hat with e2|e2
  · exact hq.2.2.1 (e2▸e)
  · rw [e2] at e
    have:=Yv e;have:=hq.2.1;omega,hq.2.2.2⟩))
 refine ⟨by rw [Yp];exact ho,h.o2.far hg ?_,?_,h.r2.le hm,fun g e e2=>?_⟩
 · cases e:Qac A2 with
   | none=>exact .inl rfl
   | some g=>exact .inr (fun e2=>h.dj g e2.symm e)
 · intro j l' hj
   rcases Nat.lt_trichotomy j l1.length with e|e|e
   · rw [Yc e] at hj
     obtain ⟨R',d',q1,q2,q3⟩:=h.r1 j l' hj;exact ⟨R',d',by rw [Yc (by omega)];exact q1,q2.le hm,q3⟩
   · subst e
     rw [Yb (Zn _),Yy] at hj
     cases hj
     exact ⟨R,d,by rw [←hxl,Yb (Zn _),Yy];rfl,hr.le hm,k1,k2⟩
   · rw [Yd (by simp;omega)] at hj
     cases hj
 · rcases hat with e3|e3
   · exact h.dj g (e3▸e) e2
   · rw [e3] at e
     have:=Yv e;have:=(h.o2.lt g e2).2;omega
theorem Tw.rd1 (h:Tw t1 t2 B V A1 c1 x1 l1 A2 c2 x2 l2):RdT (msk V (fun b=>B≤b)) A1 l1.length l1 :=
 ⟨rfl,fun j l hj=>by
  obtain ⟨R,d,q1,q2,q3⟩:=h.r1 j l hj;obtain ⟨b,o,e,k4⟩:=h.o1.rds.2 _ _ q1;exact ⟨b,o,R,_,d,e,Qal.2 ⟨(h.o1.lt b (by rw [e];rfl)).1,k4⟩,q2.le (Qbe (fun b hb=>hb.1)),q3⟩⟩
end
theorem Qyb {f:Tri→Int}{l:List Tri}{v:Int}{k b:Nat} (h:(idx f l v)[k]?=some (b:Int)):∃ y,l[b]?=some y∧f y=v∧(idx f (l.take b) v).length=k:=by
 obtain ⟨b',y,e,hy,hv⟩:=Qfm.1 (Zm h);obtain rfl:b=b':=by omega
 refine ⟨y,hy,hv,?_⟩;have hb:=(Zs hy).1;have h1:=idx_at (f:=f) hy l.length hb (Zn _);rw [List.take_length,hv] at h1;have hs:=Qnd f v l;rw [List.pairwise_iff_getElem] at hs;obtain ⟨p1,e1⟩:=Zs h;obtain ⟨p2,e2⟩:=Zs h1
 rcases Nat.lt_trichotomy (idx f (l.take b) v).length k with g|g|g
 · have:=hs _ _ p2 p1 g;omega
 · exact g
 · have:=hs _ _ p1 p2 g;omega
theorem turnN_eq {N:Qak}{a b v t:Nat}{x1 x3 y2 y3 v1 v2 z:Int}{tb:Qcv} (hx:N.ar[a]?=some (x1,(v:Int),x3)) (hy:N.ar[b]?=some ((v:Int),y2,y3)) (hv:N.vs[v]?=some (v1,v2,(t:Int))) (htb:N.ts[t]?=some tb)
 (hz:tb.costs[(idx (·.2.1) (N.ar.take a) (v:Int)).length*tb.outs.toNat+(idx (·.1) (N.ar.take b) (v:Int)).length]?=some z):Qaw N a b=z:=by
 unfold Qaw;rw [hx,hy];simp only [if_pos,Yl,hv,htb,Qgi];rw [Ya,hz]
 rfl
def nxK (N:Qak)(a v k:Nat):List Int:=((idx (·.1) N.ar (v:Int)).take k).filter (fun b=>Qaw N a b.toNat != 1152921504606846976)
def trK (N:Qak)(a v k:Nat):List Int:=(nxK N a v k).map (fun b=>Qaw N a b.toNat)
theorem trK_len (N:Qak)(a v k:Nat):(trK N a v k).length=(nxK N a v k).length:=by simp [trK]
theorem nxK_le (N:Qak)(a v k:Nat):(nxK N a v k).length≤k:=Yx (List.length_filter_le _ _) (List.length_take_le _ _)
theorem nxK_in {N:Qak}{a v k b:Nat} (h:(idx (·.1) N.ar (v:Int))[k]?=some (b:Int)) (ht:Qaw N a b≠1152921504606846976):nxK N a v (k+1)=nxK N a v k ++[(b:Int)]∧trK N a v (k+1)=trK N a v k ++[Qaw N a b]:=by
 have e:nxK N a v (k+1)=nxK N a v k ++[(b:Int)]:=by
  unfold nxK;rw [List.take_add_one,h,List.filter_append];simp [ht]
 exact ⟨e,by unfold trK;rw [e];simp⟩
theorem nxK_out {N:Qak}{a v k b:Nat} (h:(idx (·.1) N.ar (v:Int))[k]?=some (b:Int)) (ht:Qaw N a b=1152921504606846976):nxK N a v (k+1)=nxK N a v k∧trK N a v (k+1)=trK N a v k:=by
 have e:nxK N a v (k+1)=nxK N a v k:=by
  unfold nxK;rw [List.take_add_one,h,List.filter_append];simp [ht]
 exact ⟨e,by unfold trK;rw [e]⟩
theorem nxK_all {N:Qak}{a v:Nat}{x:Tri} (hx:N.ar[a]?=some x) (hv:x.2.1=(v:Int)) {k:Nat} (hk:(idx (·.1) N.ar (v:Int)).length≤k):nxK N a v k=Qhe N a∧trK N a v k=Qqu N a:=by
 have e:nxK N a v k=Qhe N a:=by
  unfold nxK Qhe;rw [hx,Ye hk];simp only [hv]
 exact ⟨e,by unfold trK Qqu;rw [e]⟩
theorem Qko {N:Qak}{a:Nat}:(List.range (a+1)).map (Qhe N)=(List.range a).map (Qhe N) ++[Qhe N a]∧(List.range (a+1)).map (Qqu N)=(List.range a).map (Qqu N) ++[Qqu N a]:=by
 rw [List.range_succ];simp
theorem Rag {G:Nat→Prop}{W:World}{g:Nat}(hg:¬G g)(v0 v1 v2 v3 v4:Value):Qbb G W (((((W.setCell ⟨g,0,none⟩ v0).setCell ⟨g,1,none⟩ v1).setCell ⟨g,2,none⟩ v2).setCell ⟨g,3,none⟩ v3).setCell ⟨g,4,none⟩ v4):=fun b hb hl=>by
 have key:∀ (W':World) (o:Nat) (v:Value),b<W'.heap.size→(W'.setCell ⟨g,o,none⟩ v).heap[b]?=W'.heap[b]?∧b<(W'.setCell ⟨g,o,none⟩ v).heap.size:=fun W' o v h'=>⟨(Qaa W' g o v).block b h' (fun e=>hg (by cases e;exact hb)),by simpa [World.setCell] using h'⟩
 obtain ⟨e0,h0⟩:=key W 0 v0 hl;obtain ⟨e1,h1⟩:=key _ 1 v1 h0;obtain ⟨e2,h2⟩:=key _ 2 v2 h1;obtain ⟨e3,h3⟩:=key _ 3 v3 h2;obtain ⟨e4,h4⟩:=key _ 4 v4 h3;rw [e4,e3,e2,e1,e0]
def OfPost (w:World)(xA xB xC:Value)(m:Nat)(N:Qak)(r:Ending)(w':World):Prop :=
 ∃ (NX:Option Addr) (cx:Nat) (TX:Option Addr) (ct:Nat),r=.returned (.agg #[xA,xB,xC,.slice NX m cx,.slice TX m ct])∧RdT w' NX m (Qmg N)∧RdT w' TX m (Qmi N)∧Below w.heap.size w w'
structure OfW (w W:World) (xA xB xC:Value):Prop where
 bel:Below w.heap.size w W
 net:Blk W w.heap.size 26 #[xA,xB,xC]
 res:Blk W (w.heap.size+1) 50 #[.slice none 0 0,.slice none 0 0,.slice none 0 0,.slice none 0 0,.slice none 0 0]
 box:Blk W (w.heap.size+1+1) 50 #[xA,xB,xC,.slice none 0 0,.slice none 0 0]
 size:w.heap.size+5≤W.heap.size
section
variable {w W W':World} {xA xB xC:Value}
theorem OfW.below (h:OfW w W xA xB xC)(hb:Below W.heap.size W W'):OfW w W' xA xB xC:=⟨Zb h.bel hb,h.net.below hb h.net.lt,h.res.below hb h.res.lt,h.box.below hb h.box.lt,Yx h.size hb.size⟩
theorem OfW.grown (h:OfW w W xA xB xC){r:Option Nat}(hg:W.grownBy W' r)(hr:∀ g,r=some g→w.heap.size+3≤g):OfW w W' xA xB xC :=
 ⟨h.bel.grown hg h.bel.size (fun g e=>by have:=hr g e;omega),h.net.grown hg (fun e=>by have:=hr _ e;omega),h.res.grown hg (fun e=>by have:=hr _ e;omega),h.box.grown hg (fun e=>by have:=hr _ e;omega),Yx h.size hg.size⟩
end
structure OfR (w wB V:World) (xA xB xC:Value) (AN:Option Addr) (cN:Nat) (xN:List Value) (lN:List (List Int)) (AT:Option Addr) (cT:Nat) (xT:List Value) (lT:List (List Int)):Prop where
 kept:Qbb (fun b=>b≠w.heap.size+1+1) wB V
 size:wB.heap.size≤V.heap.size
 bel:Below w.heap.size w V
 box:Blk V (w.heap.size+1+1) 50 #[xA,xB,xC,.slice AN lN.length cN,.slice AT lT.length cT]
 tw:Tw 61 36 wB.heap.size V AN cN xN lN AT cT xT lT
section
variable {w wB V V':World} {xA xB xC:Value} {AN AT:Option Addr} {cN cT:Nat} {xN xT:List Value} {lN lT:List (List Int)}
theorem OfR.below (h:OfR w wB V xA xB xC AN cN xN lN AT cT xT lT)(hb:Below V.heap.size V V'):OfR w wB V' xA xB xC AN cN xN lN AT cT xT lT :=
 ⟨h.kept.trans (Qbb.below hb) h.size,Yx h.size hb.size,Zb h.bel hb,h.box.below hb h.box.lt,h.tw.below hb⟩
theorem OfR.pushN {R A3:Option Addr}{d c3:Nat}{l:List Int}(h:OfR w wB V xA xB xC AN cN xN lN AT cT xT lT)(hz:w.heap.size+5≤wB.heap.size) (hr:RdI (msk V (GG wB.heap.size V AN AT)) R l.length l) (k1:l.length≤d) (k2:d≤9223372036854775807)
 (ho:Own V' wB.heap.size 61 1 A3 (lN.length+1) c3 (xN ++[.slice R l.length d])) (hg:V.grownBy V' (Qac AN)) (hat:Qac A3=Qac AN∨Qac A3=some V.heap.size) :
 OfR w wB (V'.setCell ⟨w.heap.size+1+1,3,none⟩ (.slice A3 (lN.length+1) c3)) xA xB xC A3 c3 (xN ++[.slice R l.length d]) (lN ++[l]) AT cT xT lT:=by
 have hA:∀ g,Qac AN=some g→wB.heap.size≤g:=fun g e=>(h.tw.o1.lt g e).1
 have hz':wB.heap.size≤V'.heap.size:=Yx h.size hg.size;have hbx:=(h.box.grown hg (fun e=>by have:=hA _ e;omega)).set_ 3 (.slice A3 (lN.length+1) c3);refine ⟨fun b hb hl=>?_,by simpa [World.setCell] using hz',?_,?_,(h.tw.push hr k1 k2 ho hg hat).set (by omega) _ _⟩
 · have h1:=h.kept b hb hl
   have h2:=hg.block b (by have:=h.size;omega) (fun e=>by have:=hA b e.symm;omega);have h3:=(Qaa V' (w.heap.size+1+1) 3 (.slice A3 (lN.length+1) c3)).block b (by have:=h.size;have:=hg.size;omega) (fun e=>hb (by cases e;rfl))
   exact h3.trans (h2.trans h1)
 · exact Zi (h.bel.grown hg h.bel.size (fun g e=>by have:=hA g e;omega)) (by omega)
 · rw [Yp]
   simpa using hbx
theorem OfR.pushT {R A3:Option Addr}{d c3:Nat}{l:List Int}(h:OfR w wB V xA xB xC AN cN xN lN AT cT xT lT)(hz:w.heap.size+5≤wB.heap.size) (hr:RdI (msk V (GG wB.heap.size V AN AT)) R l.length l) (k1:l.length≤d) (k2:d≤9223372036854775807)
 (ho:Own V' wB.heap.size 36 1 A3 (lT.length+1) c3 (xT ++[.slice R l.length d])) (hg:V.grownBy V' (Qac AT)) (hat:Qac A3=Qac AT∨Qac A3=some V.heap.size) :
 OfR w wB (V'.setCell ⟨w.heap.size+1+1,4,none⟩ (.slice A3 (lT.length+1) c3)) xA xB xC AN cN xN lN A3 c3 (xT ++[.slice R l.length d]) (lT ++[l]):=by
 have hA:∀ g,Qac AT=some g→wB.heap.size≤g:=fun g e=>(h.tw.o2.lt g e).1
 have hz':wB.heap.size≤V'.heap.size:=Yx h.size hg.size;have hbx:=(h.box.grown hg (fun e=>by have:=hA _ e;omega)).set_ 4 (.slice A3 (lT.length+1) c3);refine ⟨fun b hb hl=>?_,by simpa [World.setCell] using hz',?_,?_,((h.tw.swap.push (hr.le (Qbe (fun _ hb=>⟨hb.1,hb.2.1,hb.2.2.2,hb.2.2.1⟩))) k1 k2 ho hg hat).set (by omega) _ _).swap⟩
 · have h1:=h.kept b hb hl
   have h2:=hg.block b (by have:=h.size;omega) (fun e=>by have:=hA b e.symm;omega);have h3:=(Qaa V' (w.heap.size+1+1) 4 (.slice A3 (lT.length+1) c3)).block b (by have:=h.size;have:=hg.size;omega) (fun e=>hb (by cases e;rfl))
   exact h3.trans (h2.trans h1)
 · exact Zi (h.bel.grown hg h.bel.size (fun g e=>by have:=hA g e;omega)) (by omega)
 · rw [Yp]
   simpa using hbx
end
theorem infoI64s:(Tryz.prog.info? 36).map (fun i=>(i.zero,i.size,i.bytes))=some (some (.slice none 0 0),1,24):=by kernel_rfl
set_option maxHeartbeats 8000000 in
set_option maxRecDepth 20000 in
theorem Qwi (A B C:Option Addr)(n m k c d e:Nat)(N:Qak)(w:World)(h:Qbg w A B C n m k N)(hok:Qas N) :
 Calls prog 15 #[.agg #[.slice A n c,.slice B m d,.slice C k e]] w (OfPost w (.slice A n c) (.slice B m d) (.slice C k e) m N):=by
 have HH:=Zh h;have HOK:=Zh hok;have HLV:=Zh h.1.1;have HLA:=Zh h.2.1.1;have HLT:=Zh h.2.2.1;have hn4:n≤4096:=by rw [←h.1.1];exact hok.lv
 have hm:m≤16384:=by rw [←h.2.1.1];exact hok.la
 have hmk:=Qne n (by omega);clear h hok
 go_enter func15,ntmps15
 go_wp2_with fail
 (refine Qai ?_;intro w1 hw1)
 have hW1:OfW w w1 (.slice A n c) (.slice B m d) (.slice C k e):=by
  rw [hw1];refine ⟨Qag,?_,?_,?_,?_⟩
  · repeat (first|(refine Blk.new' _ _ _ ?_ <;> simp <;> done)|apply Blk.alloc)
  · repeat (first|(refine Blk.new' _ _ _ ?_ <;> simp <;> done)|apply Blk.alloc)
  · repeat (first|(refine Blk.new' _ _ _ ?_ <;> simp <;> done)|apply Blk.alloc)
  · simp
 have hI1:Ik2 w1 (w.heap.size+5) (w.heap.size+1+1+1) (w.heap.size+1+1+1+1) n (Qim (·.1) (N.ar.take 0) n) (Qim (·.2.1) (N.ar.take 0) n):=by
  rw [List.take_zero,Qkb,Qkb];refine Ik2.start (by omega) (by omega) (by omega) ?_ ?_
  · rw [hw1];repeat (first|(refine Blk.new' _ _ _ ?_ <;> simp <;> done)|apply Blk.alloc)
  · rw [hw1];repeat (first|(refine Blk.new' _ _ _ ?_ <;> simp <;> done)|apply Blk.alloc)
 clear hw1 hmk
 go_loopw [6] (fun q W=>∃ j:Nat,j≤m∧q=.int .i64 j∧OfW w W (.slice A n c) (.slice B m d) (.slice C k e)∧Ik2 W (w.heap.size+5) (w.heap.size+1+1+1) (w.heap.size+1+1+1+1) n (Qim (·.1) (N.ar.take j) n) (Qim (·.2.1) (N.ar.take j) n)) (fun q _=>m-(intOf q).toNat)
 case atStart=>exact ⟨0,Nat.zero_le _,rfl,hW1,hI1⟩
 case round =>
  clear hW1 hI1;obtain ⟨j,hj,rfl,hW,hI⟩:=hrel;have x1:wr.cell? ⟨w.heap.size,1,none⟩=some (.slice B m d):=Zq hW.net;have xl:=hW.size
  by_cases hlt:j<m
  · obtain ⟨b,o,x,y,z,rfl,hx,cx,cy,cz⟩:=HH.out.2.1.at_ hlt
    have hok:=HOK.out.arcs _ (Zm hx);have f0:=hok.f0;have f1:=hok.f1;have g0:=hok.g0;have g1:=hok.g1;simp only at f0 f1 g0 g1;rw [HLV.out] at f1 g1;obtain ⟨u,rfl⟩:∃ u:Nat,x=u:=⟨x.toNat,by omega⟩;obtain ⟨v,rfl⟩:∃ v:Nat,y=v:=⟨y.toNat,by omega⟩;have hu:u<n:=by omega
    have hvn:v<n:=by omega
    have HN1:=Zh (Qhy (f:=(·.2.1)) (n:=n) (v:=v) hx rfl hvn);have HN2:=Zh (Qhy (f:=(·.1)) (n:=n) (v:=u) hx rfl hu);have HL1:=Zh (Qdm (f:=(·.2.1)) (l:=N.ar.take j) hvn);have HL2:=Zh (Qdm (f:=(·.1)) (l:=N.ar.take j) hu);have d1:=Qep (·.2.1) N.ar j (v:Int);have d2:=Qep (·.1) N.ar j (u:Int);have CXU:=Zh cx;have CXV:=Zh cy;have i1:(0:Int)≤(j:Int):=by omega
    have i2:(j:Int)<(m:Int):=by omega
    have i3:(0:Int)≤(u:Int):=by omega
    have i4:(u:Int)<(n:Int):=by omega
    have i5:(0:Int)≤(v:Int):=by omega
    have i6:(v:Int)<(n:Int):=by omega
    have HIV:=Zh hI;have HWV:=Zh hW;clear hx hok cx cy cz hW hI;generalize hl1:idx (·.2.1) (N.ar.take j) (v:Int)=la at *;generalize hl2:idx (·.1) (N.ar.take j) (u:Int)=lb at *;clear hl1 hl2;have HLX:=Zh HL2.out;have HLN:=Zh HN2.out;have HUU:=hu
    go_wp2_with fail
    obtain ⟨Ac,cc,lc,ec,cwc,ffc,hoc⟩:=HIV.out.1.row HUU;rw [HLX.out] at ec
    cases ec
    have hx1:wr.cell? ⟨w.heap.size,1,none⟩=some (.slice (some ⟨b,o,none⟩) m d):=Zq HWV.out.net;have hx2:=Zc HWV.out.bel (Zn _) CXU.out;have hbl:=Qah CXU.out;simp only at hbl;refine Qbm 20 (S:=fun V=>V.cell? ⟨w.heap.size,1,none⟩=some (.slice (some ⟨b,o,none⟩) m d)∧V.cell? ⟨b,o+j*3,none⟩=some (.int .i64 (u:Int))∧V.cell? ⟨w.heap.size+1+1+1,u,none⟩=some (.slice Ac lb.length cc)) (by kernel_rfl) ⟨hx1,hx2,cwc⟩ (fun _=>?_);refine tkF 0 31 (h:=⟨_,tv,?_⟩);simp only [pE,List.set];refine tkF 1 32 (h:=⟨_,tv,?_⟩);simp only [pE,List.set];refine tkK 2 33 (h:=⟨_,tv,?_⟩);simp only [pE,List.set];refine tkF 3 34 (h:=⟨_,tv,?_⟩);simp only [pE,List.set];refine tkF 4 35 (h:=⟨_,tv,?_⟩);simp only [pE,List.set];refine tkF 5 36 (h:=⟨_,tv,?_⟩);simp only [pE,List.set];refine tkK 6 37 (h:=⟨_,tv,?_⟩);simp only [pE,List.set];refine tkF 7 38 (h:=⟨_,tv,?_⟩);simp only [pE,List.set];refine tkF 8 39 (h:=⟨_,tv,?_⟩);simp only [pE,List.set];refine tkK 9 40 (h:=⟨_,tv,?_⟩);simp only [pE,List.set];refine tkF 10 41 (h:=⟨_,tv,?_⟩);simp only [pE,List.set];refine tkF 11 42 (h:=⟨_,tv,?_⟩);simp only [pE,List.set];refine tkF 12 43 (h:=⟨_,tv,?_⟩);simp only [pE,List.set];refine tkK 13 44 (h:=⟨_,tv,?_⟩);simp only [pE,List.set];refine tkF 14 45 (h:=⟨_,tv,?_⟩);simp only [pE,List.set];refine tkK 15 46 (h:=⟨_,tv,?_⟩);simp only [pE,List.set];refine tkF 16 47 (h:=⟨_,tv,?_⟩);simp only [pE,List.set];obtain ⟨w9,hw9⟩:∃ w9,w9=(wr.alloc (.cells #[.int .i64 (j:Int)] 3)).drew:=⟨_,rfl⟩;have hb9:Below wr.heap.size wr w9:=by rw [hw9];exact ((Zr _ _).alloc (Zn _) _).drew
    have hI9:=HIV.out.below hb9;have hW9:=HWV.out.below hb9;have hrd9:Rds w9 1 (some ⟨wr.heap.size,0,none⟩) 1 (Qaf [(j:Int)]):=by rw [hw9];exact ((Blk.new wr 3 (Qcs [(j:Int)])).drew).rds rfl
    have hro9:=hoc.below hb9;have hrc9:=Zc hb9 (Zn _) cwc;have hx19:=Zc hb9 (Zn _) hx1;have hx29:=Zc hb9 (Zn _) hx2;have hsz9:w.heap.size+5≤w9.heap.size:=hW9.size;have hAz:∀ g,Qac Ac=some g→w.heap.size+5≤g:=fun g e=>(hoc.lt g e).1
    refine Qbl (i:=17) (by kernel_rfl) (by rfl) rfl (fun K hK=>?_);go_simp;rw [←hw9];refine hK.out _ _ ⟨hx19,hx29,hrc9⟩ (fun _=>?_);clear hK K hw9;refine Qbl (i:=18) (by kernel_rfl) (by rfl) rfl (fun K hK=>?_);with_reducible refine Qaj (some 49) rfl rfl (.tmp 46) (.tmp 48) 61 rfl 3 _ 1 8 Qbs underlying61 rfl (by omega) rfl rfl hro9 hrd9 (Qao _) (by omega) (by omega) hsz9 ?_
    intro RA' rc' w10 ho10 hg10 hat10;have hW10:=hW9.grown hg10 (fun g e=>by have:=hAz g e;omega)
    have hcg:w10.cell? ⟨w.heap.size+1+1+1,u,none⟩=some (.slice Ac lb.length cc):=by
     rw [World.cell?_of_block (hg10.block (w.heap.size+1+1+1) (by omega) (fun e=>by have:=hAz _ e.symm;omega))];exact hrc9
    have hcy:w10.cell? ⟨b,o+j*3,none⟩=some (.int .i64 (u:Int)):=Zc hW10.bel (Zn _) CXU.out;obtain ⟨xf,hfv,hff⟩:=hI9.1.cellG HUU hg10 (hro9.ne (by omega));refine hK.out _ _ ⟨Zq hW10.net,hcy,hcg⟩ (fun _=>?_);clear hK K;simp only [Act.put,Yi,Yj,Yk];have hIF:=hI9.push HLX.out hrc9 ho10 hg10 hat10;have hWF:=hW10.grown (Qaa w10 (w.heap.size+1+1+1) u (.slice RA' (lb.length+1) rc')) (fun g e=>by cases e;omega)
    refine tkF 19 50 (h:=⟨_,tv,?_⟩);simp only [pE,List.set];refine Qcc (k:=20) (by kernel_rfl) rfl (fun K hK=>?_);go_simp;refine hK.out _ _ ?_;clear hK K;refine Qbw (by kernel_rfl) ?_ _;obtain ⟨V2,hVO⟩:∃ V2,V2=w10.setCell ⟨w.heap.size+1+1+1,u,none⟩ (.slice RA' (lb.length+1) rc'):=⟨_,rfl⟩;rw [←hVO] at hIF hWF ⊢;rw [HLN.out] at hIF;clear hVO hcg hcy hfv hff ho10 hg10 hat10 hI9 hW9 hW10 hrd9 hro9 hrc9 hx19 hx29 hsz9 hb9 hAz cwc ffc hoc hx1 hx2 HIV HWV HLX HLN HUU;have HIV:=Zh hIF.swap;have HWV:=Zh hWF;clear hIF hWF;have HLX:=Zh HL1.out;have HLN:=Zh HN1.out;have HUU:=hvn
    go_wp2_with fail
    obtain ⟨Ac,cc,lc,ec,cwc,ffc,hoc⟩:=HIV.out.1.row HUU;rw [HLX.out] at ec
    cases ec
    have hx1:V2.cell? ⟨w.heap.size,1,none⟩=some (.slice (some ⟨b,o,none⟩) m d):=Zq HWV.out.net;have hx2:=Zc HWV.out.bel (Zn _) CXV.out;have hbl:=Qah CXV.out;simp only at hbl;refine Qbm 20 (S:=fun V=>V.cell? ⟨w.heap.size,1,none⟩=some (.slice (some ⟨b,o,none⟩) m d)∧V.cell? ⟨b,o+j*3+1,none⟩=some (.int .i64 (v:Int))∧V.cell? ⟨w.heap.size+1+1+1+1,v,none⟩=some (.slice Ac la.length cc)) (by kernel_rfl) ⟨hx1,hx2,cwc⟩ (fun _=>?_);refine tkF 0 51 (h:=⟨_,tv,?_⟩);simp only [pE,List.set];refine tkF 1 52 (h:=⟨_,tv,?_⟩);simp only [pE,List.set];refine tkK 2 53 (h:=⟨_,tv,?_⟩);simp only [pE,List.set];refine tkF 3 54 (h:=⟨_,tv,?_⟩);simp only [pE,List.set];refine tkF 4 55 (h:=⟨_,tv,?_⟩);simp only [pE,List.set];refine tkF 5 56 (h:=⟨_,tv,?_⟩);simp only [pE,List.set];refine tkK 6 57 (h:=⟨_,tv,?_⟩);simp only [pE,List.set];refine tkF 7 58 (h:=⟨_,tv,?_⟩);simp only [pE,List.set];refine tkF 8 59 (h:=⟨_,tv,?_⟩);simp only [pE,List.set];refine tkK 9 60 (h:=⟨_,tv,?_⟩);simp only [pE,List.set];refine tkF 10 61 (h:=⟨_,tv,?_⟩);simp only [pE,List.set];refine tkF 11 62 (h:=⟨_,tv,?_⟩);simp only [pE,List.set];refine tkF 12 63 (h:=⟨_,tv,?_⟩);simp only [pE,List.set];refine tkK 13 64 (h:=⟨_,tv,?_⟩);simp only [pE,List.set];refine tkF 14 65 (h:=⟨_,tv,?_⟩);simp only [pE,List.set];refine tkK 15 66 (h:=⟨_,tv,?_⟩);simp only [pE,List.set];refine tkF 16 67 (h:=⟨_,tv,?_⟩);simp only [pE,List.set];obtain ⟨w9,hw9⟩:∃ w9,w9=(V2.alloc (.cells #[.int .i64 (j:Int)] 3)).drew:=⟨_,rfl⟩;have hb9:Below V2.heap.size V2 w9:=by rw [hw9];exact ((Zr _ _).alloc (Zn _) _).drew
    have hI9:=HIV.out.below hb9;have hW9:=HWV.out.below hb9;have hrd9:Rds w9 1 (some ⟨V2.heap.size,0,none⟩) 1 (Qaf [(j:Int)]):=by rw [hw9];exact ((Blk.new V2 3 (Qcs [(j:Int)])).drew).rds rfl
    have hro9:=hoc.below hb9;have hrc9:=Zc hb9 (Zn _) cwc;have hx19:=Zc hb9 (Zn _) hx1;have hx29:=Zc hb9 (Zn _) hx2;have hsz9:w.heap.size+5≤w9.heap.size:=hW9.size;have hAz:∀ g,Qac Ac=some g→w.heap.size+5≤g:=fun g e=>(hoc.lt g e).1
    refine Qbl (i:=17) (by kernel_rfl) (by rfl) rfl (fun K hK=>?_);go_simp;rw [←hw9];refine hK.out _ _ ⟨hx19,hx29,hrc9⟩ (fun _=>?_);clear hK K hw9;refine Qbl (i:=18) (by kernel_rfl) (by rfl) rfl (fun K hK=>?_);with_reducible refine Qaj (some 69) rfl rfl (.tmp 66) (.tmp 68) 61 rfl 3 _ 1 8 Qbs underlying61 rfl (by omega) rfl rfl hro9 hrd9 (Qao _) (by omega) (by omega) hsz9 ?_
    intro RA' rc' w10 ho10 hg10 hat10;have hW10:=hW9.grown hg10 (fun g e=>by have:=hAz g e;omega)
    have hcg:w10.cell? ⟨w.heap.size+1+1+1+1,v,none⟩=some (.slice Ac la.length cc):=by
     rw [World.cell?_of_block (hg10.block (w.heap.size+1+1+1+1) (by omega) (fun e=>by have:=hAz _ e.symm;omega))];exact hrc9
    have hcy:w10.cell? ⟨b,o+j*3+1,none⟩=some (.int .i64 (v:Int)):=Zc hW10.bel (Zn _) CXV.out;obtain ⟨xf,hfv,hff⟩:=hI9.1.cellG HUU hg10 (hro9.ne (by omega));refine hK.out _ _ ⟨Zq hW10.net,hcy,hcg⟩ (fun _=>?_);clear hK K;simp only [Act.put,Yi,Yj,Yk];have hIF:=hI9.push HLX.out hrc9 ho10 hg10 hat10;have hWF:=hW10.grown (Qaa w10 (w.heap.size+1+1+1+1) v (.slice RA' (la.length+1) rc')) (fun g e=>by cases e;omega)
    refine tkF 19 70 (h:=⟨_,tv,?_⟩);simp only [pE,List.set];refine Qcc (k:=20) (by kernel_rfl) rfl (fun K hK=>?_);go_simp;refine hK.out _ _ ?_;clear hK K;refine Qbw (by kernel_rfl) ?_ _;obtain ⟨V3,hVO⟩:∃ V3,V3=w10.setCell ⟨w.heap.size+1+1+1+1,v,none⟩ (.slice RA' (la.length+1) rc'):=⟨_,rfl⟩;rw [←hVO] at hIF hWF ⊢;rw [HLN.out] at hIF;clear hVO hcg hcy hfv hff ho10 hg10 hat10 hI9 hW9 hW10 hrd9 hro9 hrc9 hx19 hx29 hsz9 hb9 hAz cwc ffc hoc hx1 hx2 HIV HWV HLX HLN HUU;have HIV:=Zh hIF.swap;have HWV:=Zh hWF;clear hIF hWF
    go_wp2_with fail
    go_roundw
    case rel=>exact ⟨j+1,by omega,by go_num,HWV.out,HIV.out⟩
    case measure=>simp [intOf];omega
  · obtain rfl:m=j:=by omega
    have i1:¬((m:Int)<(m:Int)):=by omega
    obtain ⟨wB,hwB⟩:∃ wB,wB=wr:=⟨_,rfl⟩;subst hwB;rw [Ye (by rw [HLA.out];exact Zn _)] at hI;obtain ⟨G0,hG0⟩:∃ G0:Nat→Prop,G0=fun b=>w.heap.size+3≤b∧b<wB.heap.size:=⟨_,rfl⟩
    have HOUT:=Zh (show RdT (msk wB G0) (some ⟨w.heap.size+1+1+1,0,none⟩) n (Qim (·.1) N.ar n) from hI.1.rdM (by rw [hG0];exact ⟨by omega,hI.1.lt⟩) (fun b h1 h2=>by rw [hG0];exact ⟨by omega,h2⟩))
    have HIN:=Zh (show RdT (msk wB G0) (some ⟨w.heap.size+1+1+1+1,0,none⟩) n (Qim (·.2.1) N.ar n) from hI.2.1.rdM (by rw [hG0];exact ⟨by omega,hI.2.1.lt⟩) (fun b h1 h2=>by rw [hG0];exact ⟨by omega,h2⟩))
    have HLG:=Zh (show ∀ V,Qbb (fun b=>b≠w.heap.size+1+1) wB V→Le (msk wB G0) V from fun V hV=>(hV.mono (fun b hb=>by rw [hG0] at hb;have:=hb.1;omega)).msk.trans (Qbd _ _))
    have HWB:=Zh hW;have HR0:=Zh (show OfR w wB wB (.slice A n c) (.slice B m d) (.slice C k e) none 0 [] [] none 0 [] [] from ⟨Qbb.refl _ _,Zn _,hW.bel,hW.box,Tw.nil _ _ _ _⟩)
    clear hW hI hG0
    go_wp2_with fail
    go_loopw [7] (fun q V=>∃ (a:Nat) (AN:Option Addr) (cN:Nat) (xN:List Value) (AT:Option Addr) (cT:Nat) (xT:List Value),a≤m∧q=.int .i64 a∧OfR w wB V (.slice A n c) (.slice B m d) (.slice C k e) AN cN xN ((List.range a).map (Qhe N)) AT cT xT ((List.range a).map (Qqu N))) (fun q _=>m-(intOf q).toNat)
    case atStart=>exact ⟨0,none,0,[],none,0,[],Nat.zero_le _,rfl,HR0.out⟩
    case round =>
     clear HR0 x1 xl;obtain ⟨a,AN,cN,xN,AT,cT,xT,ha,rfl,hR⟩:=hrel;have HR:=Zh hR;have hz5:=HWB.out.size;have hzB:=hR.size;have hnet:Blk wr w.heap.size 26 #[.slice A n c,.slice B m d,.slice C k e]:=(hR.kept w.heap.size (show w.heap.size≠w.heap.size+1+1 by omega) HWB.out.net.lt).trans HWB.out.net
     have x1:wr.cell? ⟨w.heap.size,1,none⟩=some (.slice B m d):=Zq hnet;have xl:=hnet.lt
     by_cases haM:a<m
     rotate_left
     · obtain rfl:m=a:=by omega
       have hres:Blk wr (w.heap.size+1) 50 #[.slice none 0 0,.slice none 0 0,.slice none 0 0,.slice none 0 0,.slice none 0 0]:=(hR.kept (w.heap.size+1) (show w.heap.size+1≠w.heap.size+1+1 by omega) HWB.out.res.lt).trans HWB.out.res
       have hl1:((List.range m).map (Qhe N)).length=m:=by simp
       have hl2:((List.range m).map (Qqu N)).length=m:=by simp
       have hbx:=hR.box;rw [hl1,hl2] at hbx;have y0:wr.cell? ⟨w.heap.size+1+1,0,none⟩=some (.slice A n c):=Zq hbx;have y1:wr.cell? ⟨w.heap.size+1+1,1,none⟩=some (.slice B m d):=Zq hbx;have y2:wr.cell? ⟨w.heap.size+1+1,2,none⟩=some (.slice C k e):=Zq hbx;have y3:wr.cell? ⟨w.heap.size+1+1,3,none⟩=some (.slice AN m cN):=Zq hbx;have y4:wr.cell? ⟨w.heap.size+1+1,4,none⟩=some (.slice AT m cT):=Zq hbx;have z0:wr.cell? ⟨w.heap.size+1,0,none⟩=some (.slice none 0 0):=Zq hres;have z1:wr.cell? ⟨w.heap.size+1,1,none⟩=some (.slice none 0 0):=Zq hres;have z2:wr.cell? ⟨w.heap.size+1,2,none⟩=some (.slice none 0 0):=Zq hres;have z3:wr.cell? ⟨w.heap.size+1,3,none⟩=some (.slice none 0 0):=Zq hres;have z4:wr.cell? ⟨w.heap.size+1,4,none⟩=some (.slice none 0 0):=Zq hres;have f0:=hres.frozen 0;have f1:=hres.frozen 1;have f2:=hres.frozen 2;have f3:=hres.frozen 3;have f4:=hres.frozen 4;clear hR hl1 hl2 hbx
       go_wp2_with fail
       obtain ⟨w9,hw9⟩:∃ w9,w9=((((wr.setCell ⟨w.heap.size+1,0,none⟩ (.slice A n c)).setCell ⟨w.heap.size+1,1,none⟩ (.slice B m d)).setCell ⟨w.heap.size+1,2,none⟩ (.slice C k e)).setCell ⟨w.heap.size+1,3,none⟩ (.slice AN m cN)).setCell ⟨w.heap.size+1,4,none⟩ (.slice AT m cT):=⟨_,rfl⟩;rw [←hw9]
       have hB9:Blk w9 (w.heap.size+1) 50 #[.slice A n c,.slice B m d,.slice C k e,.slice AN m cN,.slice AT m cT]:=by
        have:=((((hres.set_ 0 (.slice A n c)).set_ 1 (.slice B m d)).set_ 2 (.slice C k e)).set_ 3 (.slice AN m cN)).set_ 4 (.slice AT m cT);rw [←hw9] at this
        simpa using this
       have hb9:Below w.heap.size w w9:=by
        rw [hw9];exact Zi (Zi (Zi (Zi (Zi HR.out.bel (by omega)) (by omega)) (by omega)) (by omega)) (by omega)
       have hk9:Qbb (fun b=>wB.heap.size≤b) wr w9:=by rw [hw9];exact Rag (fun (e:wB.heap.size≤w.heap.size+1)=>by omega) _ _ _ _ _
       obtain ⟨c0,c1,c2,c3,c4⟩:w9.cell? ⟨w.heap.size+1,0,none⟩=some (.slice A n c)∧w9.cell? ⟨w.heap.size+1,1,none⟩=some (.slice B m d)∧w9.cell? ⟨w.heap.size+1,2,none⟩=some (.slice C k e)∧w9.cell? ⟨w.heap.size+1,3,none⟩=some (.slice AN m cN)∧w9.cell? ⟨w.heap.size+1,4,none⟩=some (.slice AT m cT):=by
        refine ⟨?_,?_,?_,?_,?_⟩ <;> (rw [hB9.cell];rfl)
       refine bodyPost_ret (v:=.agg #[.slice A n c,.slice B m d,.slice C k e,.slice AN m cN,.slice AT m cT]) (by simp [results,results15,go_sem,c0,c1,c2,c3,c4]) rfl ?_;have r1:=HR.out.tw.rd1;have r2:=HR.out.tw.swap.rd1;rw [List.length_map,List.length_range] at r1 r2;refine ⟨AN,cN,AT,cT,rfl,?_,?_,hb9⟩
       · have:=r1.le (hk9.msk.trans (Qbd _ _))
         unfold Qmg;rw [HLA.out];exact this
       · have:=r2.le (hk9.msk.trans (Qbd _ _))
         unfold Qmi;rw [HLA.out];exact this
     obtain ⟨b,o,x,y,z,rfl,hx,cx,cy,cz⟩:=HH.out.2.1.at_ haM;obtain ⟨lN,hlN⟩:∃ lN,lN=(List.range a).map (Qhe N):=⟨_,rfl⟩;obtain ⟨lT,hlT⟩:∃ lT,lT=(List.range a).map (Qqu N):=⟨_,rfl⟩;rw [←hlN,←hlT] at hR;have HR:=Zh hR;have hlN1:lN.length≤16384:=by rw [hlN,List.length_map,List.length_range];omega
     have hlT1:lT.length≤16384:=by rw [hlT,List.length_map,List.length_range];omega
     have HLNE:=Zh hlN;have HLTE:=Zh hlT;clear hlN hlT;have hok:=HOK.out.arcs _ (Zm hx);have g0:=hok.g0;have g1:=hok.g1;simp only at g0 g1;rw [HLV.out] at g1;obtain ⟨v,rfl⟩:∃ v:Nat,y=v:=⟨y.toNat,by omega⟩;have hvn:v<n:=by omega
     obtain ⟨b2,o2,v1,v2,v3,rfl,hv,vx,vy,vz⟩:=HH.out.1.at_ (i:=v) hvn;have hvo:=HOK.out.verts _ (Zm hv);obtain ⟨t,rfl⟩:∃ t:Nat,v3=(t:Int):=⟨v3.toNat,by have:=hvo.t0;simp only at this;omega⟩;have htk:t<k:=by have h1:=hvo.t1;have:=HLT.out;simp only at h1;omega
     obtain ⟨b3,o3,tb,rfl,htb,t0,t1,AQ,nT,cQ,t2,hrd,hnT,hcT⟩:=HH.out.2.2.at_ htk;have hto:=HOK.out.tabs tb (Zm htb);have hmt:=HOK.out.meet v _ tb hv (by simpa using htb);obtain ⟨i,hi⟩:∃ i:Nat,i=(idx (·.2.1) (N.ar.take a) (v:Int)).length:=⟨_,rfl⟩;have hip:(i:Int)<tb.ins:=by rw [←hmt.1,hi];exact_mod_cast Qgv (f:=(·.2.1)) hx rfl
     have hpi:plI (idx (·.2.1) N.ar (v:Int)) (a:Int)=(i:Int):=by rw [hi];exact Qry (f:=(·.2.1)) hx
     have hle:=HLG.out wr hR.kept;obtain ⟨_,_,Ai,ni,ci,li,eI,hli,ki,ri,_,_⟩:=HIN.out.at_ hvn
     cases eI
     rw [Qdm hvn] at hli
     cases hli
     obtain ⟨_,_,Ao,no,co,lo,eO,hlo,ko,ro,_,_⟩:=HOUT.out.at_ hvn
     cases eO
     rw [Qdm hvn] at hlo
     cases hlo
     rw [Yz] at ki ko;have ki':=hle _ _ ki;have ko':=hle _ _ ko;have hol:(idx (·.1) N.ar (v:Int)).length=no:=ro.1;have hno:no≤16384:=by have h1:=Qep (·.1) N.ar N.ar.length (v:Int);rw [List.take_length] at h1;have:=HLA.out;omega
     have hni:ni≤1000000000:=by have h1:=Qep (·.2.1) N.ar N.ar.length (v:Int);rw [List.take_length] at h1;have:=ri.1;have:=HLA.out;omega
     have HPL:=Zh (Qei Ai ni ci _ (a:Int) wr (ri.le hle) hni);have HPI:=Zh hpi;have HRO:=Zh (ro.le hle);have HOL:=Zh hol;have HX:=Zh hx
     have HTN:=Zh (fun (b' q:Nat) (hb':(idx (·.1) N.ar (v:Int))[q]?=some (b':Int))=>show ∀ z,tb.costs[i*tb.outs.toNat+q]?=some z→Qaw N a b'=z from fun z hz=>by
      obtain ⟨⟨y1,y2,y3⟩,hy,e,hq⟩:=Qyb hb';simp only at e;subst e;exact turnN_eq hx hy hv htb (by rw [←hi,hq];exact hz))
     have HQO:=Zh (fun (q b':Nat) (hb':(idx (·.1) N.ar (v:Int))[q]?=some (b':Int))=>show (q:Int)<tb.outs from by
      obtain ⟨y,hy,e,hq⟩:=Qyb hb';rw [←hmt.2,←hq]
      exact_mod_cast Qgv (f:=(·.1)) hy e)
     have HTA:=Zh (fun (q:Nat) V (hV:Below w.heap.size w V) (hq:(q:Int)<tb.outs)=>Qjh AQ nT cQ tb i q V (hrd.below hV) hto hip hq);have cy':=Zc hR.bel (Zn _) cy
     have HSXX:=Zh (show ∀ V,Below wr.heap.size wr V→V.cell? ⟨w.heap.size,0,none⟩=some (.slice (some ⟨b2,o2,none⟩) n c)∧V.cell? ⟨w.heap.size,2,none⟩=some (.slice (some ⟨b3,o3,none⟩) k e)∧V.cell? ⟨w.heap.size+1+1+1,v,none⟩=some (.slice Ao no co)∧V.cell? ⟨b2,o2+v*3+2,none⟩=some (.int .i64 t)∧V.cell? ⟨b3,o3+t*3,none⟩=some (.int .i64 tb.ins)∧V.cell? ⟨b3,o3+t*3+1,none⟩=some (.int .i64 tb.outs)∧V.cell? ⟨b3,o3+t*3+2,none⟩=some (.slice AQ nT cQ) from
      fun V hV=>⟨by rw [(hnet.below hV hnet.lt).cell];rfl,by rw [(hnet.below hV hnet.lt).cell];rfl,Zc hV (Zn _) ko',Zc (Zb hR.bel hV) (Zn _) vz,Zc (Zb hR.bel hV) (Zn _) t0,Zc (Zb hR.bel hV) (Zn _) t1,Zc (Zb hR.bel hV) (Zn _) t2⟩)
     have k1:(a:Int)<(m:Int):=by omega
     have k2:(0:Int)≤(a:Int):=by omega
     have k3:(0:Int)≤(v:Int):=by omega
     have k4:(v:Int)<(n:Int):=by omega
     have k5:(0:Int)≤(t:Int):=by omega
     have k6:(t:Int)<(k:Int):=by omega
     clear hx cx cy cz hok g0 g1 hv vx vy vz hvo htb t0 t1 t2 hrd hnT hcT hto hmt hi hip hpi ki ko ri ro hol hni hnet hle hR
     go_wp2_with fail
     with_reducible refine HPL.out.mono ?_
     rintro r w' ⟨rfl,rfl⟩;rw [HPI.out]
     go_wp2_with fail
     clear HPL ki' cy' x1;obtain ⟨wo,hwo⟩:∃ wo,wo=wr:=⟨_,rfl⟩;subst hwo
     go_loopw [10,11,12] (fun zn zt q V=>∃ (kk:Nat) (An:Option Addr) (cn:Nat) (At:Option Addr) (ct:Nat),kk≤no∧q=.int .i64 kk∧zn=.slice An (nxK N a v kk).length cn∧zt=.slice At (nxK N a v kk).length ct∧Own V wo.heap.size 3 1 An (nxK N a v kk).length cn (Qaf (nxK N a v kk))∧Own V wo.heap.size 2 1 At (nxK N a v kk).length ct (Qaf (trK N a v kk))∧(∀ g,Qac An=some g→Qac At≠some g)∧Below wo.heap.size wo V) (fun _ _ q _=>no-(intOf q).toNat)
     case atStart=>exact ⟨0,none,0,none,0,Nat.zero_le _,rfl,rfl,rfl,Own.nil _ _ _ _,Own.nil _ _ _ _,(fun g e=>by cases e),Zr _ _⟩
     case round =>
      obtain ⟨kk,An,cn,At,ct,hkk,rfl,rfl,rfl,hon,hot,hdj,hbl⟩:=hrel;have HDJ:=Zh hdj;have HBL:=Zh hbl;have hnl:=nxK_le N a v kk;obtain ⟨nx,hnx⟩:∃ nx,nx=nxK N a v kk:=⟨_,rfl⟩;obtain ⟨tr,htr⟩:∃ tr,tr=trK N a v kk:=⟨_,rfl⟩;have htl:tr.length=nx.length:=by rw [hnx,htr];exact trK_len N a v kk
      rw [←hnx] at hnl hon hot ⊢;rw [←htr] at hot;have HON:=Zh hon;have HOT:=Zh hot;have HNX:=Zh hnx;have HTR:=Zh htr;have HTL:=Zh htl;clear hnx htr htl;have q1:=(HSXX.out wr hbl).2.2.1;have hblz:=hbl.size;clear hon hot hdj hbl
      by_cases hlt2:kk<no
      rotate_left
      · obtain rfl:kk=no:=by omega
        have j2:¬((kk:Int)<(kk:Int)):=by omega
        have hall:=nxK_all HX.out rfl (k:=kk) (by rw [HOL.out];exact Zn _);rw [←HNX.out,←HTR.out] at hall;have HALL:=Zh hall;have HRB:=Zh (HR.out.below HBL.out);have y3:wr.cell? ⟨w.heap.size+1+1,3,none⟩=some (.slice AN lN.length cN):=Zq HRB.out.box;have yl:=HRB.out.box.lt;obtain ⟨W2,hW2⟩:∃ W2,W2=wr.alloc (.cells #[.slice An nx.length cn] 61):=⟨_,rfl⟩;have hbW:Below wr.heap.size wr W2:=by rw [hW2];exact Qag
        have HR2:=Zh (HRB.out.below hbW);have HON2:=Zh (HON.out.below hbW);have HOT2:=Zh (HOT.out.below hbW);have hown:=HR2.out.tw.o1;have hrd:Rds W2 1 (some ⟨wr.heap.size,0,none⟩) 1 [.slice An nx.length cn]:=by rw [hW2];exact (Blk.new wr 61 #[.slice An nx.length cn]).rds rfl
        have hsz:wB.heap.size≤W2.heap.size:=HR2.out.size;have hAN:∀ g,Qac AN=some g→g<wo.heap.size:=fun g e=>(HR.out.tw.o1.lt g e).2
        have hAT:∀ g,Qac AT=some g→g<wo.heap.size:=fun g e=>(HR.out.tw.o2.lt g e).2
        have HAN:=Zh hAN;have HAT:=Zh hAT;have hRD:RdI (msk W2 (GG wB.heap.size W2 AN AT)) An nx.length nx:=(HON2.out.rds.rdI).msk (fun b hb=>⟨by have:=(HON2.out.lt b hb).1;have:=HR.out.size;omega,(HON2.out.lt b hb).2,fun e=>by have:=(HON2.out.lt b hb).1;have:=hAN b e;omega,fun e=>by have:=(HON2.out.lt b hb).1;have:=hAT b e;omega⟩);have HRD:=Zh hRD;have HW2:=Zh hW2;clear hW2 hRD hall hAN hAT
        go_wp2_with (at_builtin;rw [←HW2.out];with_reducible refine Qan rfl (.tmp 129) (.tmp 131) 27 rfl 61 _ 1 24 Qgy underlying27 rfl (by omega) rfl rfl hown hrd (Qck _ _ _) (by omega) (by omega) hsz ?_)
        intro A3 c3 w8 ho8 hg8 hat8;have hB8:=HR2.out.box.grown hg8 (fun e=>by have:=(hown.lt _ e).1;omega);have v5:w8.cell? ⟨w.heap.size+1+1,3,none⟩=some (.slice AN lN.length cN):=Zq hB8;have v6:=hB8.frozen 3;have v7:=hB8.lt;obtain ⟨V3,hV3⟩:∃ V3,V3=w8.setCell ⟨w.heap.size+1+1,3,none⟩ (.slice A3 (lN.length+1) c3):=⟨_,rfl⟩;have HP:=Zh (HR2.out.pushN hz5 HRD.out HON2.out.cap HON2.out.capMax ho8 hg8 hat8);rw [←hV3] at HP
        have HOT3:=Zh (show Own V3 wo.heap.size 2 1 At nx.length ct (Qaf tr) from by
         rw [hV3];refine (HOT2.out.far hg8 ?_).far (Qaa _ _ _ _) (.inr (fun e=>by have:=(HOT2.out.lt _ e).1;omega))
         cases e:Qac At with
         | none=>exact .inl rfl
         | some g=>exact .inr (fun e2=>by have:=HAN.out g e2.symm;have:=(HOT2.out.lt g e).1;omega))
        have HA3:=Zh (show ∀ g,Qac A3=some g→Qac At≠some g from fun g e e2=>by
         have h1:=HOT2.out.lt g e2
         rcases hat8 with e3|e3
         · have:=HAN.out g (e3▸e);omega
         · rw [e3] at e;have:=Yv e;omega)
        have HV3:=Zh hV3;have v4:w8.cell? ⟨w.heap.size+1+1,4,none⟩=some (.slice AT lT.length cT):=Zq hB8;have hz38:V3.heap.size=w8.heap.size:=by rw [hV3];simp [World.setCell]
        clear hown hrd hsz ho8 hg8 hat8 hB8 HW2 hV3;obtain ⟨W4,hW4⟩:∃ W4,W4=V3.alloc (.cells #[.slice At nx.length ct] 36):=⟨_,rfl⟩;have hbW4:Below V3.heap.size V3 W4:=by rw [hW4];exact Qag
        have HR4:=Zh (HP.out.below hbW4);have HOT4:=Zh (HOT3.out.below hbW4);have hown:=HR4.out.tw.o2;have hrd:Rds W4 1 (some ⟨w8.heap.size,0,none⟩) 1 [.slice At nx.length ct]:=by rw [←hz38,hW4];exact (Blk.new V3 36 #[.slice At nx.length ct]).rds rfl
        have hsz:wB.heap.size≤W4.heap.size:=HR4.out.size
        have HRD2:=Zh (show RdI (msk W4 (GG wB.heap.size W4 A3 AT)) At tr.length tr from by
         rw [HTL.out];exact (HOT4.out.rds.rdI).msk (fun b hb=>⟨by have:=(HOT4.out.lt b hb).1;have:=HR.out.size;omega,(HOT4.out.lt b hb).2,fun e=>HA3.out b e hb,fun e=>by have:=(HOT4.out.lt b hb).1;have:=HAT.out b e;omega⟩))
        have HW4:=Zh hW4;clear hW4 hz38
        go_wp2_with (at_builtin;rw [←HV3.out,←HW4.out];with_reducible refine Qan rfl (.tmp 135) (.tmp 137) 48 rfl 36 _ 1 24 infoI64s underlying48 rfl (by omega) rfl rfl hown hrd (Qck _ _ _) (by omega) (by omega) hsz ?_)
        intro A5 c5 w9 ho9 hg9 hat9;clear v5 v6 v7 v4 y3 yl;have hB9:=HR4.out.box.grown hg9 (fun e=>by have:=(hown.lt _ e).1;omega);have v5:w9.cell? ⟨w.heap.size+1+1,4,none⟩=some (.slice AT lT.length cT):=Zq hB9;have v6:=hB9.frozen 4;have v7:=hB9.lt;rw [←HTL.out] at ho9;have HP2:=Zh (HR4.out.pushT hz5 HRD2.out (by rw [HTL.out];exact HOT4.out.cap) HOT4.out.capMax ho9 hg9 hat9);have HFN:=Zh (show (List.range (a+1)).map (Qhe N)=lN ++[nx] by rw [Qko.1,HALL.out.1,HLNE.out])
        have HFT:=Zh (show (List.range (a+1)).map (Qqu N)=lT ++[tr] by rw [Qko.2,HALL.out.2,HLTE.out])
        clear hown hrd hsz ho9 hg9 hat9 hB9 HW4
        go_wp2_with fail
        go_roundw
        case rel=>exact ⟨a+1,A3,c3,_,A5,c5,_,by omega,by go_num,by rw [HFN.out,HFT.out];exact HP2.out⟩
        case measure=>simp [intOf];omega
      · obtain ⟨bO,oO,zO,rfl,hzO,hcO⟩:=(HRO.out.below HBL.out).at_ hlt2
        obtain ⟨b',yO,rfl,_,_⟩:=Qfm.1 (Zm hzO);have HZO:=Zh hzO;have j1:(kk:Int)<(no:Int):=by omega
        have j2:(0:Int)≤(kk:Int):=by omega
        have HSX:=Zh (fun V (hV:Below wr.heap.size wr V)=>HSXX.out V (Zb HBL.out hV));have HCO:=Zh hcO;have HBW:=Zh (Zb HR.out.bel HBL.out);clear hzO hcO
        go_wp2_with fail
        refine wp_region_held_drew (S:=fun V=>Below wr.heap.size wr V) (by kernel_rfl) (Zr _ _).drew (fun _=>?_);refine tz 0 99 ?_;refine tz 1 100 ?_;refine tz 2 101 ?_;refine tz 3 102 ?_;refine tz 4 103 ?_;refine tz 5 104 ?_;refine tz 6 105 ?_;refine tz 7 106 ?_;refine tz 8 107 ?_;refine tz 9 108 ?_;refine tz 10 109 ?_;refine tz 11 110 ?_;refine Zk 12 (fun K hK=>?_);go_simp;with_reducible refine (HTA.out kk _ (HBW.out.trans ((Zr _ _).drew.mono HBW.out.size)) (HQO.out kk b' HZO.out)).mono ?_
        rintro r w2 ⟨zz,hzz,rfl,hb2⟩;have hb2':Below wr.heap.size wr w2:=(Zr _ _).drew.trans hb2;have HZ:=Zh (HTN.out b' kk HZO.out zz hzz);clear hzz hb2;go_simp;refine hK.out _ _ hb2' (fun _=>?_);clear hK K;refine tz 13 13 ?_;refine Zd ?_;have HB2:=Zh (Zb HBL.out hb2');have HON1:=Zh (HON.out.below hb2');have HOT1:=Zh (HOT.out.below hb2');have q2:=(HSX.out w2 hb2').2.2.1;have hc2:=Zc hb2' (Zn _) HCO.out;have hz2:=hb2'.size;clear hb2' q1 HSX
        by_cases hinf:zz=1152921504606846976
        · have e1:(zz != 1152921504606846976)=false:=by simp [hinf]
          have hout:=nxK_out HZO.out (by rw [HZ.out];exact hinf);rw [←HNX.out,←HTR.out] at hout;have HOUT2:=Zh hout;clear hout hinf
          go_wp2_with fail
          go_roundw
          case rel=>exact ⟨kk+1,An,cn,At,ct,by omega,by go_num,by rw [HOUT2.out.1],by rw [HOUT2.out.1],by rw [HOUT2.out.1];exact HON1.out,by rw [HOUT2.out.1,HOUT2.out.2];exact HOT1.out,HDJ.out,HB2.out⟩
          case measure=>simp [intOf];omega
        · have e1:(zz != 1152921504606846976)=true:=by simp [hinf]
          have hin:=nxK_in HZO.out (by rw [HZ.out];exact hinf);rw [←HNX.out,←HTR.out,HZ.out] at hin;have HIN2:=Zh hin;clear hin hinf;obtain ⟨W3,hW3⟩:∃ W3,W3=w2.alloc (.cells #[.int .i64 (b':Int)] 3):=⟨_,rfl⟩;have hbW:Below w2.heap.size w2 W3:=by rw [hW3];exact Qag
          have HON2:=Zh (HON1.out.below hbW);have HOT2:=Zh (HOT1.out.below hbW);have HB3:=Zh (Zb HB2.out hbW);have hown:=HON2.out;have hrd:Rds W3 1 (some ⟨w2.heap.size,0,none⟩) 1 (Qaf [(b':Int)]):=by rw [hW3];exact (Blk.new w2 3 #[.int .i64 (b':Int)]).rds rfl
          have hsz:wo.heap.size≤W3.heap.size:=HB3.out.size;have HW3:=Zh hW3;clear hW3 hbW
          go_wp2_with (at_builtin;rw [←HW3.out];with_reducible refine Qan rfl (.tmp 114) (.tmp 122) 61 rfl 3 _ 1 8 Qbs underlying61 rfl (by omega) rfl rfl hown hrd (Qao _) (by omega) (by omega) hsz ?_)
          intro A3 c3 w8 ho8 hg8 hat8;have HB8:=Zh (Zo HB3.out hg8 hown hsz)
          have HOT8:=Zh (show Own w8 wo.heap.size 2 1 At nx.length ct (Qaf tr) from by
           refine HOT2.out.far hg8 ?_
           cases e:Qac At with
           | none=>exact .inl rfl
           | some g=>exact .inr (fun e2=>HDJ.out g e2.symm e))
          have HO8:=Zh ho8
          have HD8:=Zh (show ∀ g,Qac A3=some g→Qac At≠some g∧g<w8.heap.size from fun g e=>⟨fun e2=>by
           rcases hat8 with e3|e3
           · exact HDJ.out g (e3▸e) e2
           · rw [e3] at e;have:=Yv e;have:=(HOT2.out.lt g e2).2;omega,(ho8.lt g e).2⟩)
          clear hown hrd hsz ho8 hg8 hat8 HW3;obtain ⟨W4,hW4⟩:∃ W4,W4=w8.alloc (.cells #[.int .i64 zz] 2):=⟨_,rfl⟩;have hbW4:Below w8.heap.size w8 W4:=by rw [hW4];exact Qag
          have HOT9:=Zh (HOT8.out.below hbW4);have HO9:=Zh (HO8.out.below hbW4);have HB9:=Zh (Zb HB8.out hbW4);have hown:=HOT9.out;have hrd:Rds W4 1 (some ⟨w8.heap.size,0,none⟩) 1 (Qaf [zz]):=by rw [hW4];exact (Blk.new w8 2 #[.int .i64 zz]).rds rfl
          have hsz:wo.heap.size≤W4.heap.size:=HB9.out.size;have hz84:=hbW4.size;have HW4:=Zh hW4;clear hW4 hbW4
          go_wp2_with (at_builtin;rw [←HW4.out];with_reducible refine Qan rfl (.tmp 124) (.tmp 126) 36 rfl 2 _ 1 8 Qhk underlying36 rfl (by omega) rfl rfl hown hrd (Qao _) (by omega) (by omega) hsz ?_)
          intro A5 c5 w9 ho9 hg9 hat9;have HB10:=Zh (Zo HB9.out hg9 hown hsz)
          have HO10:=Zh (show Own w9 wo.heap.size 3 1 A3 (nx.length+1) c3 (Qaf nx ++Qaf [(b':Int)]) from by
           refine HO9.out.far hg9 ?_
           cases e:Qac A3 with
           | none=>exact .inl rfl
           | some g=>exact .inr (fun e2=>(HD8.out g e).1 e2.symm))
          have HO11:=Zh ho9
          have HD10:=Zh (show ∀ g,Qac A3=some g→Qac A5≠some g from fun g e e2=>by
           rcases hat9 with e3|e3
           · exact (HD8.out g e).1 (e3▸e2)
           · rw [e3] at e2;have:=Yv e2;have:=(HD8.out g e).2;omega)
          have HL1:=Zh (show (nxK N a v (kk+1)).length=nx.length+1 by rw [HIN2.out.1,Yp];rfl)
          clear hown hrd hsz ho9 hg9 hat9 HW4
          go_wp2_with fail
          go_roundw
          case rel=>exact ⟨kk+1,A3,c3,A5,c5,by omega,by go_num,by rw [HL1.out],by rw [HL1.out],by rw [HL1.out,HIN2.out.1,Qbr];exact HO10.out,by rw [HL1.out,HIN2.out.2,Qbr];exact HO11.out,HD10.out,HB10.out⟩
          case measure=>simp [intOf];omega
end Go.Proofs.YtdheeddnkdhfeaaGreatDoor
