/- For every input MendDiffs returns true, and its arguments read afterwards as before; package errors' variable errorType tied to the program's text. No condition. -/
import Derived.Test.YthoagdpakddbdaaGreatDoorD1
import Derived.Test.YthoagdpakddbdaaGreatDoorD40
namespace Go.Proofs.YthoagdpakddbdaaGreatDoor
open Go.RowKit Go.Extern.Stop Go.Stop Go.Extern Go.Proofs.Tryz
attribute [local go_sem ↓] Go.wp_at_zero Go.wp_at_succ
set_option maxRecDepth 20000 in
set_option maxHeartbeats 8000000 in
theorem Qlf (A B C Q:Option Addr)(n m k c d e L cq:Nat)(N:Qaj) (ls:List (List Int)) (UA:Option Addr) (la ca:Nat) (ul:List Int) (UB:Option Addr) (lb cb:Nat) (vl:List Int) (w:World) (h:Qbo w A B C n m k N) (hk:k≤9223372036854775807) (hq:RdT w Q L ls) (hL:L≤9223372036854775807) (hu:RdI w UA la ul) (hu9:la≤4000000000000000000) (hv:RdI w UB lb vl) (hv9:lb≤4000000000000000000) (hg:w.cell? ⟨0,0,none⟩=some Qmc) :
 Calls prog 3 #[.agg #[.slice A n c,.slice B m d,.slice C k e],.agg #[.slice Q L cq],.slice UA la ca,.slice UB lb cb] w fun r w'=>r=.returned (.bool true)∧Below w.heap.size w w':=by
 have HU:=Zh hu;have HV:=Zh hv;clear hu hv;have HH:=Zh h;have HT:=Zh hq;have HG:=Zh hg;have HNA:=Zh (show N.ar.length=m from h.2.1.1)
 have HNV:=Zh (show N.vs.length=n from h.1.1)
 clear h hq hg
 go_enter func3,ntmps3
 go_wp2_with fail
 (refine Qac ?_;intro w1 hw1)
 have hb1:Below w.heap.size w w1:=by rw [hw1];exact Qae
 have hX:Blk w1 w.heap.size 26 #[.slice A n c,.slice B m d,.slice C k e]:=by rw [hw1];exact Qay
 have hY:Blk w1 (w.heap.size+1) 29 #[.slice Q L cq]:=by rw [hw1];exact Qay
 clear hw1;with_reducible refine (Qig w1 (Zc hb1 (Zn _) HG.out)).mono ?_
 rintro r w2 ⟨rfl,hb2⟩;have hq2:=hb2;have hX2:=hX.below hb2 hX.lt;have hY2:=hY.below hb2 hY.lt;have hb2':=Zb hb1 hb2;clear hX hY hb1 hb2;obtain ⟨x0,x1,x2⟩:=hX2.three;have y0:=hY2.cell 0;simp only [List.getElem?_toArray,List.getElem?_cons_zero] at y0
 go_wp2_with fail
 with_reducible refine (Qjp A B C Q n m k c d e L cq N ls w2 (HH.out.below hb2') hk (HT.out.below hb2') hL).mono ?_
 rintro r w3 ⟨hr,hb3⟩;have hb3':=Zb hb2' hb3;have hq3:=Zb hq2 hb3;have hX3:=hX2.below hb3 hX2.lt;have hY3:=hY2.below hb3 hY2.lt;clear x0 x1 x2 y0 hX2 hY2 hb2' hb3 hq2;obtain ⟨b,rfl,hGG⟩:=hr
 cases b with
 | false =>
  clear hGG
  go_wp2_with fail
  go_ret
  exact ⟨rfl,hb3'⟩
 | true =>
 have hmay:=hGG rfl;clear hGG;have HMAY:=Zh hmay;have hok:=hmay.small.ok;have hS9:=Qmz hmay;have HB3:=Zh hb3';have HX3:=Zh hX3;have HY3:=Zh hY3;clear hmay hb3' hq3 hX3 hY3;obtain ⟨x0,x1,x2⟩:=HX3.out.three;have y0:=HY3.out.cell 0;simp only [List.getElem?_toArray,List.getElem?_cons_zero] at y0
 by_cases hA5:500<la
 · have i1:(500:Int)<(la:Int):=by omega
   go_wp2_with fail
   go_ret
   exact ⟨rfl,HB3.out⟩
 have i1:¬(500:Int)<(la:Int):=by omega
 by_cases hB5:500<lb
 · have i2:(500:Int)<(lb:Int):=by omega
   go_wp2_with fail
   go_ret
   exact ⟨rfl,HB3.out⟩
 have i2:¬(500:Int)<(lb:Int):=by omega
 go_wp2_with fail
 with_reducible refine (Qhc A B C Q n m k c d e L cq N ls w3 (HH.out.below HB3.out) hok (HT.out.below HB3.out) HMAY.out.part).mono ?_
 rintro r w4 ⟨o,rfl,hO4,hb4⟩;have HO4:=Zh (hO4.le (Qbn _ _));have HX4:=Zh (HX3.out.below hb4 HX3.out.lt);have HY4:=Zh (HY3.out.below hb4 HY3.out.lt);have HB4:=Zh (Zb HB3.out hb4);clear hO4 hb4 x0 x1 x2 y0 HX3 HY3 HB3;obtain ⟨x0,x1,x2⟩:=HX4.out.three;have y0:=HY4.out.cell 0;simp only [List.getElem?_toArray,List.getElem?_cons_zero] at y0
 go_wp2_with fail
 with_reducible refine (Qqs A B C Q n m k c d e L cq N ls w4 (HH.out.below HB4.out) hok (HT.out.below HB4.out) HMAY.out.part hS9).mono ?_
 unfold Qxf;rintro r w5 ⟨G,cg,AE,ce,EL,rfl,hG5,hE5,hEl,hEP,hb5⟩;obtain ⟨NE,hNE⟩:∃ NE,NE=EL.length:=⟨_,rfl⟩;rw [←hNE] at hE5 hEl ⊢;have hN9:NE≤1000000000:=by omega
 have HO5:=Zh (HO4.out.below hb5);have HB5:=Zh (Zb HB4.out hb5);have HG5:=Zh hG5;have HE5:=Zh hE5;have HEP:=Zh hEP;have HNE:=Zh hNE;have HEL:=Zh hEl;clear hG5 hE5 hEl hEP hb5 hNE x0 x1 x2 y0 HX4 HY4 HO4 HB4;have hinf:=Qkg;obtain ⟨v1,hv1⟩:∃ v1,v1=w5.alloc (.cells #[.slice A n c,.slice B m d,.slice C k e,.slice Q L cq,.slice G L cg,.slice AE NE ce] 38):=⟨_,rfl⟩;have HV1:=Zh hv1;have hR1:Blk v1 w5.heap.size 38 #[.slice A n c,.slice B m d,.slice C k e,.slice Q L cq,.slice G L cg,.slice AE NE ce]:=by rw [hv1];exact Blk.new _ _ _
 have hbv1:Below w5.heap.size w5 v1:=by rw [hv1];exact Qae
 obtain ⟨v2,hv2⟩:∃ v2,v2=v1.alloc (.cells #[] 2):=⟨_,rfl⟩;have HV2:=Zh hv2;have hbv2:Below v1.heap.size v1 v2:=by rw [hv2];exact Qae
 have hown1:Own v2 v1.heap.size 2 1 (some ⟨v1.heap.size,0,none⟩) 0 0 []:=by rw [hv2];exact Own.lit v1 #[] 0 (Zn _) (by omega) rfl
 have hz1:v1.heap.size=w5.heap.size+1:=by rw [hv1];simp
 have HB52:=Zh (Zb hbv1 hbv2);have hrd1:Rds v2 1 UA la (Qad ul):=(HU.out.below (Zb HB5.out HB52.out)).rdsI;have hsz1:v1.heap.size≤v2.heap.size:=hbv2.size;have HR2:=Zh (hR1.below hbv2 hR1.lt);have HV12:=Zh hbv2;clear hv1 hv2 hR1 hbv1 hbv2;rw [hz1] at hown1
 go_wp2_with (at_builtin;rw [←HV1.out,←HV2.out];with_reducible refine Qap rfl (.tmp 39) (.tmp 40) 30 rfl 2 _ 1 8 Qkg underlying30 rfl (by omega) rfl rfl hown1 hrd1 (Qah _) (by omega) (by omega) (by omega) ?_)
 intro A3 c3 w6 ho6 hg6 _;have hown1':=hown1.mono (show w5.heap.size≤w5.heap.size+1 by omega)
 have hb6:=Bel.grownOwn HB52.out hg6 hown1' (by omega)
 try simp only [Nat.zero_add,List.nil_append] at ho6
 have HR6:=Zh (HR2.out.grown hg6 (fun e=>by have e2:w5.heap.size+1=w5.heap.size:=Option.some.inj e;omega));have HA6:=Zh ho6;have HB6:=Zh (Zb HB5.out hb6);have HO6:=Zh (HO5.out.below hb6);have HG6:=Zh (HG5.out.le (Le.below hb6));have HE6:=Zh (HE5.out.below hb6);clear hown1 hown1' hrd1 ho6 hg6 hb6 HR2 HV1 HV2 HV12 HB52 HO5 HG5 HE5 HB5 hsz1 hz1;obtain ⟨v3,hv3⟩:∃ v3,v3=w6.alloc (.cells #[] 2):=⟨_,rfl⟩;have HV3:=Zh hv3;have hb3:Below w6.heap.size w6 v3:=by rw [hv3];exact Qae
 have hown2:Own v3 w6.heap.size 2 1 (some ⟨w6.heap.size,0,none⟩) 0 0 []:=by rw [hv3];exact Own.lit w6 #[] 0 (Zn _) (by omega) rfl
 have hrd2:Rds v3 1 UB lb (Qad vl):=(HV.out.below (Zb HB6.out hb3)).rdsI;have hsz3:w6.heap.size≤v3.heap.size:=hb3.size;have HB63:=Zh hb3;clear hv3 hb3
 go_wp2_with (at_builtin;rw [←HV3.out];with_reducible refine Qap rfl (.tmp 42) (.tmp 43) 30 rfl 2 _ 1 8 Qkg underlying30 rfl (by omega) rfl rfl hown2 hrd2 (Qah _) (by omega) (by omega) hsz3 ?_)
 intro A4 c4 w7 ho7 hg7 _;have hb7:=Bel.grownOwn HB63.out hg7 hown2 hsz3
 try simp only [Nat.zero_add,List.nil_append] at ho7
 try simp only [Nat.zero_add]
 have HB7:=Zh (Zb HB6.out hb7);have HO7:=Zh (HO6.out.below hb7);have HG7:=Zh (HG6.out.le (Le.below hb7));have HE7:=Zh (HE6.out.below hb7);have HR7:=Zh (HR6.out.below hb7 HR6.out.lt);have HA7:=Zh ((HA6.out.below hb7).rds.rdI);have HC7:=Zh (ho7.rds.rdI);clear hown2 hrd2 ho7 hg7 hb7 HV3 HB63 HO6 HG6 HE6 HR6 HA6 HB6 hsz3
 by_cases hla:la=NE
 rotate_left
 · have e1:((la:Int) != (NE:Int))=true:=by simp;omega
   go_wp2_with fail
   with_reducible refine (diff_a w7 o N.ar ls A3 A4 la c3 lb c4 HO7.out (by rw [←HEL.out];exact hla)).mono ?_
   rintro r w8 ⟨v,rfl,hch,hb8⟩;obtain ⟨tv,xv,rfl⟩:=Qbv hch;have HCH:=Zh hch;have hR8:=HR7.out.below hb8 HR7.out.lt;have x5:w8.cell? ⟨w5.heap.size,5,none⟩=some (.slice AE NE ce):=Zq hR8;have xl:=hR8.lt;have HB8:=Zh (Zb HB7.out hb8);clear hch hb8 hR8
   go_wp2_with fail
   with_reducible refine (Qkh (⟨#[109,101,110,100]⟩:ByteArray) 0 1 w8).mono ?_
   rintro r w9 ⟨_,rfl,⟨A9,n9,m9,rfl,h9,h5⟩,hb9⟩;have HR9:=Zh h9;have HC9:=Zh (HCH.out.below hb9);have HB9:=Zh (Zb HB8.out hb9);clear h9 hb9 x5 xl
   go_wp2_with fail
   with_reducible refine (Qjs (.iface tv xv) A9 n9 m9 [((⟨#[109,101,110,100]⟩:ByteArray),0)] 1 w9 HC9.out HR9.out (by omega) (Zc HB9.out (Zn _) HG.out) (by omega)).mono ?_
   rintro r wa ⟨rfl,hba⟩
   go_wp2_with fail
   go_ret
   exact ⟨rfl,Zb HB9.out hba⟩
 subst hla
 by_cases hlb:lb=la
 rotate_left
 · have e1:((lb:Int) != (la:Int))=true:=by simp;omega
   go_wp2_with fail
   with_reducible refine (diff_b w7 o N.ar ls A3 A4 la c3 lb c4 HO7.out HEL.out (by rw [←HEL.out];exact hlb)).mono ?_
   rintro r w8 ⟨v,rfl,hch,hb8⟩;obtain ⟨tv,xv,rfl⟩:=Qbv hch;have HCH:=Zh hch;have hR8:=HR7.out.below hb8 HR7.out.lt;have x5:w8.cell? ⟨w5.heap.size,5,none⟩=some (.slice AE la ce):=Zq hR8;have xl:=hR8.lt;have HB8:=Zh (Zb HB7.out hb8);clear hch hb8 hR8
   go_wp2_with fail
   with_reducible refine (Qkh (⟨#[109,101,110,100]⟩:ByteArray) 1 1 w8).mono ?_
   rintro r w9 ⟨_,rfl,⟨A9,n9,m9,rfl,h9,h5⟩,hb9⟩;have HR9:=Zh h9;have HC9:=Zh (HCH.out.below hb9);have HB9:=Zh (Zb HB8.out hb9);clear h9 hb9 x5 xl
   go_wp2_with fail
   with_reducible refine (Qjs (.iface tv xv) A9 n9 m9 [((⟨#[109,101,110,100]⟩:ByteArray),1)] 1 w9 HC9.out HR9.out (by omega) (Zc HB9.out (Zn _) HG.out) (by omega)).mono ?_
   rintro r wa ⟨rfl,hba⟩
   go_wp2_with fail
   go_ret
   exact ⟨rfl,Zb HB9.out hba⟩
 subst hlb;obtain ⟨hl6,hlv,har⟩:=Qsr HMAY.out;have hrl:ls.length=L:=HT.out.1
 go_wp2_with fail
 with_reducible refine (Qpz w7 o N.ar ls A3 A4 lb c3 c4 ul vl HO7.out HA7.out HC7.out HEL.out hN9 hl6 hlv har).mono ?_
 unfold TlP;rintro r w8 ⟨TT,cs,bs,rfl,hTT,hb8⟩;rw [hrl];have hR8:=HR7.out.below hb8 HR7.out.lt
 have HT8:=Zh (show RdQ w8 (some ⟨TT,0,none⟩) L (tb ls (Qpu N.ar ls ul vl)) by
  have:=hTT.rdQ (fun r hr=>by have:=Qgw HMAY.out _ r hr;omega);rw [Qcs,hrl] at this;exact this)
 have HG8:=Zh (HG7.out.le (Le.below hb8));have HE8:=Zh (HE7.out.below hb8);have HB8:=Zh (Zb HB7.out hb8);have x0:w8.cell? ⟨w5.heap.size,0,none⟩=some (.slice A n c):=Zq hR8;have x1:w8.cell? ⟨w5.heap.size,1,none⟩=some (.slice B m d):=Zq hR8;have x2:w8.cell? ⟨w5.heap.size,2,none⟩=some (.slice C k e):=Zq hR8;have x3:w8.cell? ⟨w5.heap.size,3,none⟩=some (.slice Q L cq):=Zq hR8;have x4:w8.cell? ⟨w5.heap.size,4,none⟩=some (.slice G L cg):=Zq hR8;have x5:w8.cell? ⟨w5.heap.size,5,none⟩=some (.slice AE lb ce):=Zq hR8;have xl:=hR8.lt;clear hTT hb8 hR8 HO7 HA7 HC7 HG7 HE7 HR7 HB7
 go_wp2_with fail
 with_reducible refine (Qtv (.slice A n c) (.slice B m d) (.slice C k e) (.slice Q L cq) G AE UA UB L cg ce lb ca cb EL N ls ul vl w8 HG8.out HE8.out HNE.out HEL.out HEP.out hN9 (HU.out.below HB8.out) (HV.out.below HB8.out) hl6 hlv).mono ?_
 unfold DrP;rintro r w9 ⟨RR,cr,rfl,hRR,hb9⟩;have HT9:=Zh (HT8.out.below hb9);have HB9:=Zh (Zb HB8.out hb9);have HRR:=Zh hRR;have HL6:=Zh hl6;clear hRR hb9 x0 x1 x2 x3 x4 x5 xl HT8 HG8 HE8 HB8
 go_wp2_with fail
 with_reducible refine (Qip (some ⟨TT,0,none⟩) RR L L cr _ w9 HT9.out HRR.out (by omega) (fun r hr=>Nat.le_trans (Qgw HMAY.out _ r hr) (by omega))).mono ?_
 rintro r wa ⟨rfl,hba⟩
 go_wp2_with fail
 go_ret
 exact ⟨rfl,Zb HB9.out hba⟩
end Go.Proofs.YthoagdpakddbdaaGreatDoor
namespace Go.Proofs.YthoagdpakddbdaaGreatDoor
open Go.ChangeShapes Go.WideShapes Go.ChangeAt Go.RowKit Go.Deep
namespace MendDiffsDone
set_option maxRecDepth 100000 in
theorem lifted (os:Os)(started:os.Started)(H:Type)(enc:TypeId×Value→H) :
 ReturnsInHanded {} Tryz.checked os 3 .any (fun w args => (Rows.mendDiffsSpec.pre enc Tryz.prog Tryz.f3 [] false w args ∧ laidMetH Tryz.prog [("errors.errorType", Rows.laid_errors_errorType)] w) ∧ sizedMet enc Tryz.prog Tryz.f3 (OpenSpec.ofChange Rows.mendDiffsSpec) false w args)
  (Rows.mendDiffsSpec.post enc Tryz.prog Tryz.f3 false true false false):=by
 refine returnsInHanded_of_change_and (C := Tryz.checked) (X := fun w _ => laidMetH Tryz.prog [("errors.errorType", Rows.laid_errors_errorType)] w) (fun _ _ _ hh h => h.of_heap hh) own_ started (by kernel_rfl) Tryz.func3
  (ChangeSpec.witness_at (enc := enc) (C := Tryz.checked) (os := os) (X := fun w _ => laidMetH Tryz.prog [("errors.errorType", Rows.laid_errors_errorType)] w) false (Qho os) #[.agg #[.slice none 0 0, .slice none 0 0, .slice none 0 0], .agg #[.slice none 0 0], .slice none 0 0, .slice none 0 0] 8 rfl (by kernel_rfl) (by kernel_rfl) (by kernel_rfl) (by kernel_rfl) (by kernel_rfl) (Qfc os _)) ?_
 intro W base args ds gs before hval0 hW _ hsz0 hL _;have hsz:(DataW.weightsEach Tryz.prog (Tryz.f3.params.toList ++Rows.mendDiffsSpec.plain.varTypes Tryz.prog) (ds ++gs)).all (·≤reachBytes)=true:=hsz0;clear hsz0;have hval:∀ (j:Nat) t v,Tryz.f3.params[j]?=some t→args[j]?=some v→Value.okWide Tryz.prog W .any base t v:=hval0;have hW':=hW;obtain ⟨p,q,hA0,hV,rfl,hfz,hnd⟩:=hW;have hA:DataW.TrodAll enc Tryz.prog W 0 (fun _=>true) true Tryz.f3.params.toList args.toList ds p:=hA0;rw [Tryz.params3] at hA hval hsz;obtain ⟨v0,vs0,d0,ds0,p0,q0,hargs,rfl,rfl,h0,r0⟩:=trodAll_cons hA;obtain ⟨v1,vs1,d1,ds1,p1,q1,rfl,rfl,rfl,h1,r1⟩:=trodAll_cons r0;obtain ⟨v2,vs2,d2,ds2,p2,q2,rfl,rfl,rfl,h2,r2⟩:=trodAll_cons r1;obtain ⟨v3,vs3,d3,ds3,p3,q3,rfl,rfl,rfl,h3,r3⟩:=trodAll_cons r2;obtain ⟨rfl,rfl,rfl⟩:=trodAll_nil r3;obtain rfl:args=#[v0,v1,v2,v3]:=by cases args;simp_all
 obtain ⟨rfl,rfl⟩:=trodVars_none hV;obtain ⟨cs0,rfl,_⟩:=okWide_struct Tryz.underlying26 (hval 0 26 v0 rfl rfl);have k0:=h0;have lt0:∀ x∈p0,x.block<W.heap.size:=by obtain ⟨m,hm⟩:=k0;exact DataW.trod_lt m _ _ _ hm
 obtain ⟨A,B,C,n,m,k,c,d,e,N,hcs0,hnet,hk⟩:∃ (A B C:Option Addr) (n m k c d e:Nat) (N:Qaj),cs0=#[.slice A n c,.slice B m d,.slice C k e]∧Qbo W A B C n m k N∧k≤9223372036854775807:=by
  obtain ⟨fuel,hf⟩:=h0;obtain ⟨A,B,C,n,m,k,c,d,e,N,e1,e2,e3⟩:=Qmr hf;exact ⟨A,B,C,n,m,k,c,d,e,N,Array.toList_inj.1 e1,e2,e3⟩
 subst hcs0;obtain ⟨cs1,rfl,_⟩:=okWide_struct Tryz.underlying29 (hval 1 29 v1 rfl rfl);have k1:=h1;have lt1:∀ x∈p1,x.block<W.heap.size:=by obtain ⟨m,hm⟩:=k1;exact DataW.trod_lt m _ _ _ hm
 obtain ⟨Q,L,cq,ls,hcs1,hpart,hLc⟩:∃ (Q:Option Addr) (L cq:Nat) (ls:List (List Int)),cs1=#[.slice Q L cq]∧RdT W Q L ls∧L≤9223372036854775807:=by
  obtain ⟨fuel,hf⟩:=h1;obtain ⟨Q,L,cq,ls,e1,e2,e3,e4⟩:=Qkq hf;exact ⟨Q,L,cq,ls,Array.toList_inj.1 e1,e2,by omega⟩
 subst hcs1;obtain ⟨a2,len2,cap2,rfl⟩:=okWide_slice Tryz.underlying30 (hval 2 30 v2 rfl rfl);have k2:=h2;have lt2:∀ x∈p2,x.block<W.heap.size:=by obtain ⟨m,hm⟩:=k2;exact DataW.trod_lt m _ _ _ hm
 obtain ⟨l2,hl2,hb2,hwf2⟩:∃ l:List Int,RdI W a2 len2 l∧len2≤4000000000000000000∧∀ a∈l,(Lit.int .i64 a).wf=true:=by
  obtain ⟨fuel,hf⟩:=h2;obtain ⟨l,hl,_,_,hs,hwf⟩:=Qfv Tryz.underlying30 Tryz.underlying2 (by kernel_rfl) hf;refine ⟨l,hl,?_,hwf⟩
  rcases hs with h|⟨el,sp,hx,hel⟩
  · omega
  · have:=sized_slice hsz (j:=2) (t:=30) (e:=2) (elems:=el) (spare:=sp) rfl (by simpa using hx) Tryz.underlying30
    rw [show Tryz.prog.bytesOf 2=8 by kernel_rfl] at this
    simp only [reachBytes] at this;omega
 obtain ⟨a3,len3,cap3,rfl⟩:=okWide_slice Tryz.underlying30 (hval 3 30 v3 rfl rfl);have k3:=h3;have lt3:∀ x∈p3,x.block<W.heap.size:=by obtain ⟨m,hm⟩:=k3;exact DataW.trod_lt m _ _ _ hm
 obtain ⟨l3,hl3,hb3,hwf3⟩:∃ l:List Int,RdI W a3 len3 l∧len3≤4000000000000000000∧∀ a∈l,(Lit.int .i64 a).wf=true:=by
  obtain ⟨fuel,hf⟩:=h3;obtain ⟨l,hl,_,_,hs,hwf⟩:=Qfv Tryz.underlying30 Tryz.underlying2 (by kernel_rfl) hf;refine ⟨l,hl,?_,hwf⟩
  rcases hs with h|⟨el,sp,hx,hel⟩
  · omega
  · have:=sized_slice hsz (j:=3) (t:=30) (e:=2) (elems:=el) (spare:=sp) rfl (by simpa using hx) Tryz.underlying30
    rw [show Tryz.prog.bytesOf 2=8 by kernel_rfl] at this
    simp only [reachBytes] at this;omega
 clear hA0 hval0;have hg:=Qem hL;refine (Qlf A B C Q n m k c d e L cq N ls a2 len2 cap2 l2 a3 len3 cap3 l3 W hnet hk hpart hLc hl2 hb2 hl3 hb3 hg).mono fun e W' ⟨he,bel⟩=>?_
 subst he;exact ⟨_,rfl,_,_,_,[],_,[],hW',trodAll_mk1 (shut_bool Tryz.underlying4 _),(trodAll_cons_mk (Below.trod Qde (by kernel_rfl) (of_decide_eq_true (by kernel_rfl)) k0 bel lt0) (trodAll_cons_mk (Below.trod Qde (by kernel_rfl) (of_decide_eq_true (by kernel_rfl)) k1 bel lt1) (trodAll_cons_mk (Below.trod Qde (by kernel_rfl) (of_decide_eq_true (by kernel_rfl)) k2 bel lt2) (trodAll_cons_mk (Below.trod Qde (by kernel_rfl) (of_decide_eq_true (by kernel_rfl)) k3 bel lt3) trodAll_mk0)))),rfl,bel.frame _,fun h=>by cases h⟩
theorem jf0:Rows.mendDiffsRow.wf (OpenSpec.ofChange Rows.mendDiffsSpec)=true:=by kernel_rfl
theorem jf1:laidOutB Tryz.prog=true:=by kernel_rfl
theorem jf2:mapsRowed Tryz.prog=true:=by kernel_rfl
theorem jf3:Tryz.f3.params.all (Tryz.prog.readableRec ·)=true:=by kernel_rfl
theorem jf4:namedTie Tryz.prog Rows.mendDiffsRow.named Rows.mendDiffsSpec.vars=true:=by kernel_rfl
theorem jf5:(Rows.mendDiffsRow.stops == [])=true:=by kernel_rfl
theorem jf6:(Tryz.prog.stops == [])=true:=by kernel_rfl
theorem jf7:(Rows.mendDiffsRow.knobs == [])=true:=by kernel_rfl
theorem jf8:(Tryz.prog.stopKnobs == [])=true:=by kernel_rfl
theorem jf9:(Rows.mendDiffsRow.inPlace == Tryz.prog.inPlace 3)=true:=by kernel_rfl
theorem jf10:(Rows.mendDiffsRow.unfollowed == Tryz.prog.unfollowed 3)=true:=by kernel_rfl
theorem jf11:(Rows.mendDiffsRow.recurses == Tryz.prog.recurses 3)=true:=by kernel_rfl
theorem jf12:(Rows.mendDiffsRow.named == Tryz.prog.varsNamed 3)=true:=by kernel_rfl
theorem jf13:(Rows.mendDiffsRow.maps == (Tryz.f3.params.toList ++Rows.mendDiffsSpec.plain.varTypes Tryz.prog).any (Tryz.prog.mapsRec ·))=true:=by kernel_rfl
theorem jf14:(Rows.mendDiffsRow.ifaces == (Tryz.f3.params.toList ++Rows.mendDiffsSpec.plain.varTypes Tryz.prog).any (Tryz.prog.ifacesRec ·))=true:=by kernel_rfl
theorem jf15:(Rows.mendDiffsRow.mapsOut == Tryz.prog.mapsAmong Tryz.f3.resultTypes.toList)=true:=by kernel_rfl
theorem jf16:(Rows.mendDiffsRow.loops == (Tryz.f3.params.toList ++Rows.mendDiffsSpec.plain.varTypes Tryz.prog).any (Tryz.prog.loopsFrom ·))=true:=by kernel_rfl
theorem jf17:(Rows.mendDiffsRow.wideKeys == (Tryz.f3.params.toList ++Rows.mendDiffsSpec.plain.varTypes Tryz.prog ++Tryz.f3.resultTypes.toList).any (Tryz.prog.wideKeysFrom ·))=true:=by kernel_rfl
theorem jf18:Rows.mendDiffsSpec.vars.all (Tryz.prog.varReadable ·)=true:=by kernel_rfl
theorem jf19:Tryz.f3.resultTypes.all (fun t=>Tryz.prog.readableRec t && decide (t<Tryz.prog.types.size))=true:=by kernel_rfl
theorem jf20:(Rows.mendDiffsRow.ifacesOut == Tryz.f3.resultTypes.toList.any (Tryz.prog.ifacesRec ·))=true:=by kernel_rfl
theorem jf21:(Rows.mendDiffsRow.loopsOut == Tryz.f3.resultTypes.toList.any (Tryz.prog.loopsFrom ·))=true:=by kernel_rfl
theorem jf22:(Rows.mendDiffsRow.plainKeys == Tryz.prog.plainKeys)=true:=by kernel_rfl
theorem jf23:Rows.mendDiffsRow.shortTexts.isNone=true:=by kernel_rfl
theorem jf24:Tryz.prog.stopsHeard=true:=by kernel_rfl
theorem jf25:Tryz.prog.mayEnter=true:=by kernel_rfl
theorem jf26:(Rows.mendDiffsRow.lifted == Tryz.prog.liftsFinal)=true:=by kernel_rfl
theorem jf27:(Tryz.prog.make == some Rows.mendDiffsRow.make)=true:=by kernel_rfl
theorem jf28:(Rows.mendDiffsRow.kinds == (if Rows.mendDiffsRow.domain.isEmpty then [] else Tryz.f3.params.toList.map fun t=>match Tryz.prog.underlying t with|some (.int k)=>some k|_=>none))=true:=by kernel_rfl
theorem jf29:(Rows.mendDiffsRow.pinned == Rows.mendDiffsRow.pinnedBy)=true:=by kernel_rfl
theorem jf30:(Rows.mendDiffsRow.veiled == (Tryz.f3.params.toList ++Rows.mendDiffsSpec.plain.varTypes Tryz.prog ++Tryz.f3.resultTypes.toList).any (Tryz.prog.veiledRec ·))=true:=by kernel_rfl
theorem jf31:Rows.mendDiffsRow.veiledFits Tryz.prog Tryz.f3.params.toList (Tryz.f3.params.toList ++Rows.mendDiffsSpec.plain.varTypes Tryz.prog ++Tryz.f3.resultTypes.toList)=true:=by kernel_rfl
set_option maxRecDepth 100000 in
theorem closed:joinedFacts Tryz.prog 3 Tryz.f3 Rows.mendDiffsSpec Rows.mendDiffsRow=true:=by
 simp only [joinedFacts,Bool.and_eq_true];exact ⟨⟨⟨⟨⟨⟨⟨⟨⟨⟨⟨⟨⟨⟨⟨⟨⟨⟨⟨⟨⟨⟨⟨⟨⟨⟨⟨⟨⟨⟨⟨jf0,jf1⟩,jf2⟩,jf3⟩,jf4⟩,jf5⟩,jf6⟩,jf7⟩,jf8⟩,jf9⟩,jf10⟩,jf11⟩,jf12⟩,jf13⟩,jf14⟩,jf15⟩,jf16⟩,jf17⟩,jf18⟩,jf19⟩,jf20⟩,jf21⟩,jf22⟩,jf23⟩,jf24⟩,jf25⟩,jf26⟩,jf27⟩,jf28⟩,jf29⟩,jf30⟩,jf31⟩
theorem named : Tryz.prog.funcNamed "roundsman/roundsmanlaw20.MendDiffs" = some 3 := by kernel_rfl
theorem inst:Tryz.f3.isInstance Tryz.prog Rows.mendDiffsRow.origin Rows.mendDiffsRow.targs:=of_decide_eq_true (by kernel_rfl)
theorem wrap:Tryz.f3.isWrapper Tryz.prog Rows.mendDiffsRow.wrapper Rows.mendDiffsRow.mainSum:=by unfold Func.isWrapper;rw [if_neg (of_decide_eq_false (by kernel_rfl))];exact ⟨rfl,rfl⟩
theorem over:Rows.MendDiffsSaid :=
 OpenClaim.holds_of_wide 3 Tryz.f3 rfl rfl rfl rfl rfl rfl rfl ⟨rfl,rfl,rfl,rfl,rfl⟩ rfl rfl rfl rfl rfl named Tryz.func3 closed inst wrap
  (fun os started H enc _=>lifted os started H enc)
theorem byText:Rows.mendDiffsRow.wfByText (OpenSpec.ofChange Rows.mendDiffsSpec)=true:=by kernel_rfl
theorem mainIs : Tryz.prog.mainIs = some (((true, "c61748c2e54d6490013d0fbe206834b53a8f4fa6dfde03158dfa1de7149a82b2") : Bool × String).1, ((true, "c61748c2e54d6490013d0fbe206834b53a8f4fa6dfde03158dfa1de7149a82b2") : Bool × String).2.toList) := by kernel_rfl
theorem looksL:true=Tryz.prog.looks []:=by kernel_rfl
theorem goes:false=Rows.mendDiffsRow.goesBy Tryz.prog:=by kernel_rfl
theorem proved:Rows.MendDiffsCardSaid :=
 Claim7.holds_tied_plain_at .later [] [.handle] true (true, "c61748c2e54d6490013d0fbe206834b53a8f4fa6dfde03158dfa1de7149a82b2") true
  over (fun _ h=>by cases h) byText (fun _ h=>by cases h) mendDiffs_row_tie rfl ⟨rfl,rfl⟩ mainIs rfl
  (fun f fn hf hfn=>by
   obtain rfl:f=3:=Option.some.inj (named.symm.trans hf) |>.symm
   obtain rfl:fn=Tryz.f3:=(Option.some.inj (Tryz.func3.symm.trans hfn)).symm
   exact ⟨looksL,fun j t ht=>by
    rw [Tryz.params3] at ht
    rcases j with _|_|_|_|j
    · obtain rfl:t=26:=by simpa using ht.symm
      exact (show Tryz.prog.wantsStandIn 26=false by kernel_rfl)
    · obtain rfl:t=29:=by simpa using ht.symm
      exact (show Tryz.prog.wantsStandIn 29=false by kernel_rfl)
    · obtain rfl:t=30:=by simpa using ht.symm
      exact (show Tryz.prog.wantsStandIn 30=false by kernel_rfl)
    · obtain rfl:t=30:=by simpa using ht.symm
      exact (show Tryz.prog.wantsStandIn 30=false by kernel_rfl)
    · simp at ht⟩)
  goes
#print axioms proved
end MendDiffsDone
end Go.Proofs.YthoagdpakddbdaaGreatDoor
