/- For every input ManyMost returns true, and its arguments read afterwards as before; package errors' variable errorType tied to the program's text. No condition. -/
import Derived.Test.YteaoiabikjnkeaaGreatDoorR1
import Derived.Test.YteaoiabikjnkeaaGreatDoorR40
import Derived.Test.YteaoiabikjnkeaaGreatDoorR41
namespace Go.Proofs.YteaoiabikjnkeaaGreatDoor
open Go.RowKit Go.Extern.Stop Go.Stop Go.Extern Go.Proofs.Tryz
attribute [local go_sem ↓] Go.wp_at_zero Go.wp_at_succ
theorem Qqg (n:Nat):Qdc Qax.ar.length (List.replicate n 0)=none:=Qhw (fun i a hi=>by
 rw [List.getElem?_replicate] at hi
 split at hi
 · cases hi;decide
 · cases hi)
theorem Qiq (n:Nat):Qcs n 1 1 Qax.ar.length 0 (List.replicate n 0)=if 64<n then some ((⟨#[109,97,110,121]⟩:ByteArray),0,4) else none:=by
 unfold Qcs;rw [Qqg]
 split
 · rfl
 · rw [if_neg (by simp),if_neg (by decide)];rfl
theorem Qip (n m:Nat):Qlz n m 1 1 Qax.ar.length (List.replicate n 0) (List.replicate m 0)=if 64<n then some ((⟨#[109,97,110,121]⟩:ByteArray),1,4) else if 64<m then some ((⟨#[109,97,110,121]⟩:ByteArray),0,4) else none:=by
 unfold Qlz;rw [Qqg,Qqg]
 split
 · rfl
 · split
   · rfl
   · rw [if_neg (by simp)];rfl
set_option maxRecDepth 20000 in
set_option maxHeartbeats 4000000 in
theorem Qmx (ka:Int)(b:Bool)(w:World)(hka:0≤ka∧ka≤255)(hg:w.cell? ⟨0,0,none⟩=some Qne) :
 Calls prog 7 #[.int .u8 ka,.bool b] w fun e w'=>e=.returned (.bool true)∧Below w.heap.size w w':=by
 obtain ⟨kk,rfl⟩:∃ kk:Nat,ka=(kk:Int):=⟨ka.toNat,by omega⟩;have HK:=Zh (Qlm w hg);obtain ⟨q,hq⟩:∃ q,q=kk % 5:=⟨_,rfl⟩;have m0:Int.tmod (kk:Int) 5=(q:Int):=by rw [hq];exact (Int.ofNat_tmod kk 5).symm
 have m1:(kk:Int) % 5=(q:Int):=by rw [hq];rfl
 have hq5:q<5:=by rw [hq];exact Nat.mod_lt _ (by omega)
 obtain ⟨mm,hmm⟩:∃ mm,mm=62+q:=⟨_,rfl⟩;have m2:(62:Int)+(q:Int)=(mm:Int):=by omega
 have hm6:mm≤66:=by omega
 have hm2:62≤mm:=by omega
 clear hg hq hmm
 go_enter func7,ntmps7
 go_wp2_with fail
 with_reducible refine HK.out.mono ?_
 rintro r w0 ⟨rfl,hb0⟩;have HB0:=Zh hb0;clear hb0 HK
 go_wp2_with fail
 with_reducible refine (Qse w0).mono ?_
 unfold ChnP;rintro r w1 ⟨⟨A,B,C,Q,ca,cb,cc,cq,rfl,hn1,hq1⟩,hb1⟩;have HN1:=Zh hn1;have HQ1:=Zh hq1;have HB1:=Zh (Zb HB0.out hb1);clear hn1 hq1 hb1
 go_wp2_with fail
 (refine Qac ?_;intro w2 hw2)
 have hb2:Below w1.heap.size w1 w2:=by rw [hw2];exact Qah
 clear hw2;have HB2:=Zh (Zb HB1.out hb2);have HN2:=Zh (HN1.out.below hb2);have HQ2:=Zh (HQ1.out.below hb2);clear hb2 HN1 HQ1 HB1;with_reducible refine (Qnj A B C Q 6 5 3 ca cb cc 1 cq Qax Qdo w2 HN2.out Qea HQ2.out Qdy (by rw [Qgp];omega)).mono ?_
 unfold Qpb;rintro r w3 ⟨⟨g,o,CB,NC,cl,F,rfl,hNC,hG,hF,hO,hC,hA⟩,hb3⟩;rw [Qgp] at hNC;subst hNC;obtain rfl:=hA.uniq Qkj;have HB3:=Zh (Zb HB2.out hb3);have HG3:=Zh hG.rd;have HO3:=Zh (hO.le (Qba _ _));have HC3:=Zh (show RdI w3 (some ⟨CB,0,none⟩) 1 [12] from ⟨hC.1,fun i x hx=>by obtain ⟨b,o,e,h1⟩:=hC.2 i x hx;exact ⟨b,o,e,Qba _ _ _ _ h1⟩⟩)
 have HR:=Zh (fun V (hV:Below w3.heap.size w3 V) TA nt ct tl s hT=>Qfu V g o Qax Qdo (some ⟨CB,0,none⟩) 1 1 1 [12] TA nt ct tl s (HG3.out.below hV) (HO3.out.below hV) (HC3.out.below hV) hT Qea Qdy Qgp.symm (fun _=>Qkj) ⟨by omega,by omega⟩ (by omega));have HT:=Zh (fun V (hV:Below w3.heap.size w3 V) SA TA ns cs nt ct sl tl hS hT=>Qis V g o Qax Qdo (some ⟨CB,0,none⟩) 1 1 1 [12] SA TA ns cs nt ct sl tl (HG3.out.below hV) (HO3.out.below hV) (HC3.out.below hV) hS hT Qea Qdy Qgp.symm (fun _=>Qkj) ⟨by omega,by omega⟩ (by omega));have hmk1:∀ W,(Instr.makeSlice 67 (.int .i64 1) (.int .i64 1)).run prog W=.ok (.slice (some ⟨W.heap.size,0,none⟩) 1 1) (W.alloc (.cells (Qbo (.int .i64 0) 1) 3)):=fun W=>Qcv 1 (by omega) W
 have hmkm:=Qcv mm (by omega);clear hG hF hO hC hA hb3 HN2 HQ2 HB2
 go_wp2_with fail
 refine wp_region_held_drew (S:=fun V=>Below w3.heap.size w3 V) (by kernel_rfl) (Zr _ _).drew (fun _=>?_);refine tz 1 39 ?_;refine wpAnyH_ready (rs:=[0,2]) (by kernel_rfl) (by simp) ?_;refine AllReadyH.cons (o:=_) rfl (fun K hK=>?_) (AllReadyH.cons (o:=_) rfl (fun K hK=>?_) AllReadyH.nil)
 · go_simp
   refine hK.out _ _ Qah (fun _=>?_);clear hK K;refine tz 3 12 ?_;refine Zk 2 (fun K hK=>?_);go_simp;refine hK.out _ _ Qah (fun _=>?_);clear hK K;refine tz 4 13 ?_;refine Zd ?_
   by_cases hbig:64<mm
   · have hbi:(64:Int)<(mm:Int):=by omega
     cases b with
     | false =>
      go_wp2_with fail
      (refine Qac ?_;intro w5 hw5)
      have HB5:=Zh (show Below w3.heap.size w3 w5 by rw [hw5];exact Qah)
      have HS1:=Zh (show RdI w5 (some ⟨w3.heap.size,0,none⟩) 1 (List.replicate 1 0) by rw [hw5];exact Blk.rdI (t:=3) (by rw [←Qar];exact Qbg) (List.length_replicate ..))
      have HSM:=Zh (show RdI w5 (some ⟨w3.heap.size+1,0,none⟩) mm (List.replicate mm 0) by rw [hw5];exact Blk.rdI (t:=3) (by rw [←Qar];exact Qbg) (List.length_replicate ..))
      clear hw5;have HT5:=HT.out w5 HB5.out _ _ 1 1 mm mm _ _ HS1.out HSM.out;rw [Qip,if_neg (by omega),if_pos hbig] at HT5;with_reducible refine HT5.mono ?_
      clear HT5;unfold Qoc;rintro r w6 ⟨⟨v,rfl,hc6⟩,hb6⟩;obtain ⟨tv,xv,rfl⟩:=Qam hc6;have HB6:=Zh (Zb HB5.out hb6);clear hc6 hb6
      go_wp2_with fail
      (refine Qac ?_;intro w7 hw7)
      have hb7:Below w6.heap.size w6 w7:=by rw [hw7];exact Qah
      have hT7:RdI w7 (some ⟨w6.heap.size,0,none⟩) mm (List.replicate mm 0):=by rw [hw7];exact Blk.rdI (t:=3) (by rw [←Qar];exact Blk.new _ _ _) (List.length_replicate ..)
      have HR7:=HR.out w7 (Zb HB6.out hb7) _ mm mm _ 0 hT7;rw [Qiq,if_pos hbig] at HR7;clear hw7 hT7;with_reducible refine HR7.mono ?_
      clear HR7;unfold Qlg;rintro r w8 ⟨⟨v,rfl,hc8⟩,hb8⟩;obtain ⟨tv8,xv8,rfl⟩:=Qam hc8;have HB8:=Zh (Zb HB6.out (Zb hb7 hb8));clear hc8 hb7 hb8
      go_wp2_with fail
      go_ret
      exact ⟨Qay (by simp),Zb HB3.out HB8.out⟩
     | true =>
      go_wp2_with fail
      (refine Qac ?_;intro w5 hw5)
      have HB5:=Zh (show Below w3.heap.size w3 w5 by rw [hw5];exact Qah)
      have HS1:=Zh (show RdI w5 (some ⟨w3.heap.size,0,none⟩) 1 (List.replicate 1 0) by rw [hw5];exact Blk.rdI (t:=3) (by rw [←Qar];exact Qbg) (List.length_replicate ..))
      have HSM:=Zh (show RdI w5 (some ⟨w3.heap.size+1,0,none⟩) mm (List.replicate mm 0) by rw [hw5];exact Blk.rdI (t:=3) (by rw [←Qar];exact Qbg) (List.length_replicate ..))
      clear hw5;have HT5:=HT.out w5 HB5.out _ _ mm mm 1 1 _ _ HSM.out HS1.out;rw [Qip,if_pos hbig] at HT5;with_reducible refine HT5.mono ?_
      clear HT5;unfold Qoc;rintro r w6 ⟨⟨v,rfl,hc6⟩,hb6⟩;obtain ⟨tv,xv,rfl⟩:=Qam hc6;have HB6:=Zh (Zb HB5.out hb6);clear hc6 hb6
      go_wp2_with fail
      (refine Qac ?_;intro w7 hw7)
      have hb7:Below w6.heap.size w6 w7:=by rw [hw7];exact Qah
      have hT7:RdI w7 (some ⟨w6.heap.size,0,none⟩) mm (List.replicate mm 0):=by rw [hw7];exact Blk.rdI (t:=3) (by rw [←Qar];exact Blk.new _ _ _) (List.length_replicate ..)
      have HR7:=HR.out w7 (Zb HB6.out hb7) _ mm mm _ 0 hT7;rw [Qiq,if_pos hbig] at HR7;clear hw7 hT7;with_reducible refine HR7.mono ?_
      clear HR7;unfold Qlg;rintro r w8 ⟨⟨v,rfl,hc8⟩,hb8⟩;obtain ⟨tv8,xv8,rfl⟩:=Qam hc8;have HB8:=Zh (Zb HB6.out (Zb hb7 hb8));clear hc8 hb7 hb8
      go_wp2_with fail
      go_ret
      exact ⟨Qay (by simp),Zb HB3.out HB8.out⟩
   · have hbi:¬(64:Int)<(mm:Int):=by omega
     cases b with
     | false =>
      go_wp2_with fail
      (refine Qac ?_;intro w5 hw5)
      have HB5:=Zh (show Below w3.heap.size w3 w5 by rw [hw5];exact Qah)
      have HS1:=Zh (show RdI w5 (some ⟨w3.heap.size,0,none⟩) 1 (List.replicate 1 0) by rw [hw5];exact Blk.rdI (t:=3) (by rw [←Qar];exact Qbg) (List.length_replicate ..))
      have HSM:=Zh (show RdI w5 (some ⟨w3.heap.size+1,0,none⟩) mm (List.replicate mm 0) by rw [hw5];exact Blk.rdI (t:=3) (by rw [←Qar];exact Qbg) (List.length_replicate ..))
      clear hw5;have HT5:=HT.out w5 HB5.out _ _ 1 1 mm mm _ _ HS1.out HSM.out;rw [Qip,if_neg (by omega),if_neg hbig] at HT5;with_reducible refine HT5.mono ?_
      clear HT5;unfold Qoc;rintro r w6 ⟨⟨TA6,rows,rfl,hrt,hrr⟩,hb6⟩;obtain ⟨b9,o9,A9,n9,c9,l9,hTA,hl9,cl9,hrd9,_,_⟩:=hrt.at_ (i:=0) (by omega);obtain ⟨row9,hr9,hd9⟩:=hrr 0 0 (by rw [List.getElem?_replicate];rw [if_pos (by omega)]);rw [hl9] at hr9
      cases hr9
      have h9:n9=mm:=by rw [←hrd9.1,hd9.1,List.length_replicate]
      have HB6:=Zh (Zb HB5.out hb6);have HCL:=Zh cl9;have H9:=Zh h9;subst hTA;clear hrt hrr hb6 hl9 cl9 hrd9 hd9 h9
      go_wp2_with fail
      (refine Qac ?_;intro w7 hw7)
      have hb7:Below w6.heap.size w6 w7:=by rw [hw7];exact Qah
      have hT7:RdI w7 (some ⟨w6.heap.size,0,none⟩) mm (List.replicate mm 0):=by rw [hw7];exact Blk.rdI (t:=3) (by rw [←Qar];exact Blk.new _ _ _) (List.length_replicate ..)
      have HR7:=HR.out w7 (Zb HB6.out hb7) _ mm mm _ 0 hT7;rw [Qiq,if_neg hbig] at HR7;clear hw7 hT7;with_reducible refine HR7.mono ?_
      clear HR7;unfold Qlg;rintro r w8 ⟨⟨rb,row,rfl,_,_,_⟩,hb8⟩;have HB8:=Zh (Zb HB6.out (Zb hb7 hb8));have k0:=Zc (Zb hb7 hb8) (Zn _) HCL.out;rw [Nat.add_zero] at k0;have e0:(n9:Int)=(mm:Int):=by rw [H9.out];try rfl
      have e1:((n9:Int) == (mm:Int))=true:=by rw [e0];exact beq_self_eq_true _
      clear hb7 hb8
      go_wp2_with fail
      go_ret
      exact ⟨Qay (by simp),Zb HB3.out HB8.out⟩
     | true =>
      go_wp2_with fail
      (refine Qac ?_;intro w5 hw5)
      have HB5:=Zh (show Below w3.heap.size w3 w5 by rw [hw5];exact Qah)
      have HS1:=Zh (show RdI w5 (some ⟨w3.heap.size,0,none⟩) 1 (List.replicate 1 0) by rw [hw5];exact Blk.rdI (t:=3) (by rw [←Qar];exact Qbg) (List.length_replicate ..))
      have HSM:=Zh (show RdI w5 (some ⟨w3.heap.size+1,0,none⟩) mm (List.replicate mm 0) by rw [hw5];exact Blk.rdI (t:=3) (by rw [←Qar];exact Qbg) (List.length_replicate ..))
      clear hw5;have HT5:=HT.out w5 HB5.out _ _ mm mm 1 1 _ _ HSM.out HS1.out;rw [Qip,if_neg hbig,if_neg (by omega)] at HT5;with_reducible refine HT5.mono ?_
      clear HT5;unfold Qoc;rintro r w6 ⟨⟨TA6,rows,rfl,hrt,hrr⟩,hb6⟩;obtain ⟨b9,o9,A9,n9,c9,l9,hTA,hl9,cl9,hrd9,_,_⟩:=hrt.at_ (i:=0) (by omega);obtain ⟨row9,hr9,hd9⟩:=hrr 0 0 (by rw [List.getElem?_replicate];rw [if_pos (by omega)]);rw [hl9] at hr9
      cases hr9
      have h9:n9=1:=by rw [←hrd9.1,hd9.1,List.length_replicate]
      have HB6:=Zh (Zb HB5.out hb6);have HCL:=Zh cl9;have H9:=Zh h9;subst hTA;clear hrt hrr hb6 hl9 cl9 hrd9 hd9 h9
      go_wp2_with fail
      (refine Qac ?_;intro w7 hw7)
      have hb7:Below w6.heap.size w6 w7:=by rw [hw7];exact Qah
      have hT7:RdI w7 (some ⟨w6.heap.size,0,none⟩) mm (List.replicate mm 0):=by rw [hw7];exact Blk.rdI (t:=3) (by rw [←Qar];exact Blk.new _ _ _) (List.length_replicate ..)
      have HR7:=HR.out w7 (Zb HB6.out hb7) _ mm mm _ 0 hT7;rw [Qiq,if_neg hbig] at HR7;clear hw7 hT7;with_reducible refine HR7.mono ?_
      clear HR7;unfold Qlg;rintro r w8 ⟨⟨rb,row,rfl,_,_,_⟩,hb8⟩;have HB8:=Zh (Zb HB6.out (Zb hb7 hb8));have k0:=Zc (Zb hb7 hb8) (Zn _) HCL.out;rw [Nat.add_zero] at k0;have e0:(n9:Int)=(1:Int):=by rw [H9.out];try rfl
      have e1:((n9:Int) == (1:Int))=true:=by rw [e0];exact beq_self_eq_true _
      clear hb7 hb8
      go_wp2_with fail
      go_ret
      exact ⟨Qay (by simp),Zb HB3.out HB8.out⟩
 · go_simp
   refine hK.out _ _ Qah (fun _=>?_);clear hK K;refine Zk 0 (fun K hK=>?_);go_simp;refine hK.out _ _ Qah (fun _=>?_);clear hK K;refine tz 3 12 ?_;refine tz 4 13 ?_;refine Zd ?_
   by_cases hbig:64<mm
   · have hbi:(64:Int)<(mm:Int):=by omega
     cases b with
     | false =>
      go_wp2_with fail
      (refine Qac ?_;intro w5 hw5)
      have HB5:=Zh (show Below w3.heap.size w3 w5 by rw [hw5];exact Qah)
      have HS1:=Zh (show RdI w5 (some ⟨w3.heap.size+1,0,none⟩) 1 (List.replicate 1 0) by rw [hw5];exact Blk.rdI (t:=3) (by rw [←Qar];exact Qbg) (List.length_replicate ..))
      have HSM:=Zh (show RdI w5 (some ⟨w3.heap.size,0,none⟩) mm (List.replicate mm 0) by rw [hw5];exact Blk.rdI (t:=3) (by rw [←Qar];exact Qbg) (List.length_replicate ..))
      clear hw5;have HT5:=HT.out w5 HB5.out _ _ 1 1 mm mm _ _ HS1.out HSM.out;rw [Qip,if_neg (by omega),if_pos hbig] at HT5;with_reducible refine HT5.mono ?_
      clear HT5;unfold Qoc;rintro r w6 ⟨⟨v,rfl,hc6⟩,hb6⟩;obtain ⟨tv,xv,rfl⟩:=Qam hc6;have HB6:=Zh (Zb HB5.out hb6);clear hc6 hb6
      go_wp2_with fail
      (refine Qac ?_;intro w7 hw7)
      have hb7:Below w6.heap.size w6 w7:=by rw [hw7];exact Qah
      have hT7:RdI w7 (some ⟨w6.heap.size,0,none⟩) mm (List.replicate mm 0):=by rw [hw7];exact Blk.rdI (t:=3) (by rw [←Qar];exact Blk.new _ _ _) (List.length_replicate ..)
      have HR7:=HR.out w7 (Zb HB6.out hb7) _ mm mm _ 0 hT7;rw [Qiq,if_pos hbig] at HR7;clear hw7 hT7;with_reducible refine HR7.mono ?_
      clear HR7;unfold Qlg;rintro r w8 ⟨⟨v,rfl,hc8⟩,hb8⟩;obtain ⟨tv8,xv8,rfl⟩:=Qam hc8;have HB8:=Zh (Zb HB6.out (Zb hb7 hb8));clear hc8 hb7 hb8
      go_wp2_with fail
      go_ret
      exact ⟨Qay (by simp),Zb HB3.out HB8.out⟩
     | true =>
      go_wp2_with fail
      (refine Qac ?_;intro w5 hw5)
      have HB5:=Zh (show Below w3.heap.size w3 w5 by rw [hw5];exact Qah)
      have HS1:=Zh (show RdI w5 (some ⟨w3.heap.size+1,0,none⟩) 1 (List.replicate 1 0) by rw [hw5];exact Blk.rdI (t:=3) (by rw [←Qar];exact Qbg) (List.length_replicate ..))
      have HSM:=Zh (show RdI w5 (some ⟨w3.heap.size,0,none⟩) mm (List.replicate mm 0) by rw [hw5];exact Blk.rdI (t:=3) (by rw [←Qar];exact Qbg) (List.length_replicate ..))
      clear hw5;have HT5:=HT.out w5 HB5.out _ _ mm mm 1 1 _ _ HSM.out HS1.out;rw [Qip,if_pos hbig] at HT5;with_reducible refine HT5.mono ?_
      clear HT5;unfold Qoc;rintro r w6 ⟨⟨v,rfl,hc6⟩,hb6⟩;obtain ⟨tv,xv,rfl⟩:=Qam hc6;have HB6:=Zh (Zb HB5.out hb6);clear hc6 hb6
      go_wp2_with fail
      (refine Qac ?_;intro w7 hw7)
      have hb7:Below w6.heap.size w6 w7:=by rw [hw7];exact Qah
      have hT7:RdI w7 (some ⟨w6.heap.size,0,none⟩) mm (List.replicate mm 0):=by rw [hw7];exact Blk.rdI (t:=3) (by rw [←Qar];exact Blk.new _ _ _) (List.length_replicate ..)
      have HR7:=HR.out w7 (Zb HB6.out hb7) _ mm mm _ 0 hT7;rw [Qiq,if_pos hbig] at HR7;clear hw7 hT7;with_reducible refine HR7.mono ?_
      clear HR7;unfold Qlg;rintro r w8 ⟨⟨v,rfl,hc8⟩,hb8⟩;obtain ⟨tv8,xv8,rfl⟩:=Qam hc8;have HB8:=Zh (Zb HB6.out (Zb hb7 hb8));clear hc8 hb7 hb8
      go_wp2_with fail
      go_ret
      exact ⟨Qay (by simp),Zb HB3.out HB8.out⟩
   · have hbi:¬(64:Int)<(mm:Int):=by omega
     cases b with
     | false =>
      go_wp2_with fail
      (refine Qac ?_;intro w5 hw5)
      have HB5:=Zh (show Below w3.heap.size w3 w5 by rw [hw5];exact Qah)
      have HS1:=Zh (show RdI w5 (some ⟨w3.heap.size+1,0,none⟩) 1 (List.replicate 1 0) by rw [hw5];exact Blk.rdI (t:=3) (by rw [←Qar];exact Qbg) (List.length_replicate ..))
      have HSM:=Zh (show RdI w5 (some ⟨w3.heap.size,0,none⟩) mm (List.replicate mm 0) by rw [hw5];exact Blk.rdI (t:=3) (by rw [←Qar];exact Qbg) (List.length_replicate ..))
      clear hw5;have HT5:=HT.out w5 HB5.out _ _ 1 1 mm mm _ _ HS1.out HSM.out;rw [Qip,if_neg (by omega),if_neg hbig] at HT5;with_reducible refine HT5.mono ?_
      clear HT5;unfold Qoc;rintro r w6 ⟨⟨TA6,rows,rfl,hrt,hrr⟩,hb6⟩;obtain ⟨b9,o9,A9,n9,c9,l9,hTA,hl9,cl9,hrd9,_,_⟩:=hrt.at_ (i:=0) (by omega);obtain ⟨row9,hr9,hd9⟩:=hrr 0 0 (by rw [List.getElem?_replicate];rw [if_pos (by omega)]);rw [hl9] at hr9
      cases hr9
      have h9:n9=mm:=by rw [←hrd9.1,hd9.1,List.length_replicate]
      have HB6:=Zh (Zb HB5.out hb6);have HCL:=Zh cl9;have H9:=Zh h9;subst hTA;clear hrt hrr hb6 hl9 cl9 hrd9 hd9 h9
      go_wp2_with fail
      (refine Qac ?_;intro w7 hw7)
      have hb7:Below w6.heap.size w6 w7:=by rw [hw7];exact Qah
      have hT7:RdI w7 (some ⟨w6.heap.size,0,none⟩) mm (List.replicate mm 0):=by rw [hw7];exact Blk.rdI (t:=3) (by rw [←Qar];exact Blk.new _ _ _) (List.length_replicate ..)
      have HR7:=HR.out w7 (Zb HB6.out hb7) _ mm mm _ 0 hT7;rw [Qiq,if_neg hbig] at HR7;clear hw7 hT7;with_reducible refine HR7.mono ?_
      clear HR7;unfold Qlg;rintro r w8 ⟨⟨rb,row,rfl,_,_,_⟩,hb8⟩;have HB8:=Zh (Zb HB6.out (Zb hb7 hb8));have k0:=Zc (Zb hb7 hb8) (Zn _) HCL.out;rw [Nat.add_zero] at k0;have e0:(n9:Int)=(mm:Int):=by rw [H9.out];try rfl
      have e1:((n9:Int) == (mm:Int))=true:=by rw [e0];exact beq_self_eq_true _
      clear hb7 hb8
      go_wp2_with fail
      go_ret
      exact ⟨Qay (by simp),Zb HB3.out HB8.out⟩
     | true =>
      go_wp2_with fail
      (refine Qac ?_;intro w5 hw5)
      have HB5:=Zh (show Below w3.heap.size w3 w5 by rw [hw5];exact Qah)
      have HS1:=Zh (show RdI w5 (some ⟨w3.heap.size+1,0,none⟩) 1 (List.replicate 1 0) by rw [hw5];exact Blk.rdI (t:=3) (by rw [←Qar];exact Qbg) (List.length_replicate ..))
      have HSM:=Zh (show RdI w5 (some ⟨w3.heap.size,0,none⟩) mm (List.replicate mm 0) by rw [hw5];exact Blk.rdI (t:=3) (by rw [←Qar];exact Qbg) (List.length_replicate ..))
      clear hw5;have HT5:=HT.out w5 HB5.out _ _ mm mm 1 1 _ _ HSM.out HS1.out;rw [Qip,if_neg hbig,if_neg (by omega)] at HT5;with_reducible refine HT5.mono ?_
      clear HT5;unfold Qoc;rintro r w6 ⟨⟨TA6,rows,rfl,hrt,hrr⟩,hb6⟩;obtain ⟨b9,o9,A9,n9,c9,l9,hTA,hl9,cl9,hrd9,_,_⟩:=hrt.at_ (i:=0) (by omega);obtain ⟨row9,hr9,hd9⟩:=hrr 0 0 (by rw [List.getElem?_replicate];rw [if_pos (by omega)]);rw [hl9] at hr9
      cases hr9
      have h9:n9=1:=by rw [←hrd9.1,hd9.1,List.length_replicate]
      have HB6:=Zh (Zb HB5.out hb6);have HCL:=Zh cl9;have H9:=Zh h9;subst hTA;clear hrt hrr hb6 hl9 cl9 hrd9 hd9 h9
      go_wp2_with fail
      (refine Qac ?_;intro w7 hw7)
      have hb7:Below w6.heap.size w6 w7:=by rw [hw7];exact Qah
      have hT7:RdI w7 (some ⟨w6.heap.size,0,none⟩) mm (List.replicate mm 0):=by rw [hw7];exact Blk.rdI (t:=3) (by rw [←Qar];exact Blk.new _ _ _) (List.length_replicate ..)
      have HR7:=HR.out w7 (Zb HB6.out hb7) _ mm mm _ 0 hT7;rw [Qiq,if_neg hbig] at HR7;clear hw7 hT7;with_reducible refine HR7.mono ?_
      clear HR7;unfold Qlg;rintro r w8 ⟨⟨rb,row,rfl,_,_,_⟩,hb8⟩;have HB8:=Zh (Zb HB6.out (Zb hb7 hb8));have k0:=Zc (Zb hb7 hb8) (Zn _) HCL.out;rw [Nat.add_zero] at k0;have e0:(n9:Int)=(1:Int):=by rw [H9.out];try rfl
      have e1:((n9:Int) == (1:Int))=true:=by rw [e0];exact beq_self_eq_true _
      clear hb7 hb8
      go_wp2_with fail
      go_ret
      exact ⟨Qay (by simp),Zb HB3.out HB8.out⟩
end Go.Proofs.YteaoiabikjnkeaaGreatDoor
namespace Go.Proofs.YteaoiabikjnkeaaGreatDoor
open Go.ChangeShapes Go.WideShapes Go.ChangeAt Go.RowKit Go.Deep
namespace ManyMostDone
set_option maxRecDepth 100000 in
theorem lifted (os:Os)(started:os.Started)(H:Type)(enc:TypeId×Value→H) :
 ReturnsInHanded {} Tryz.checked os 7 .any (fun w args => (Rows.manyMostSpec.pre enc Tryz.prog Tryz.f7 [] false w args ∧ laidMetH Tryz.prog [("errors.errorType", Rows.laid_errors_errorType)] w) ∧ sizedMet enc Tryz.prog Tryz.f7 (OpenSpec.ofChange Rows.manyMostSpec) false w args)
  (Rows.manyMostSpec.post enc Tryz.prog Tryz.f7 false true false false):=by
 refine returnsInHanded_of_change_and (C := Tryz.checked) (X := fun w _ => laidMetH Tryz.prog [("errors.errorType", Rows.laid_errors_errorType)] w) (fun _ _ _ hh h => h.of_heap hh) own_ started (by kernel_rfl) Tryz.func7
  (ChangeSpec.witness_at (enc := enc) (C := Tryz.checked) (os := os) (X := fun w _ => laidMetH Tryz.prog [("errors.errorType", Rows.laid_errors_errorType)] w) false (Qjw os) #[.int .u8 0, .bool false] 8 rfl (by kernel_rfl) (by kernel_rfl) (by kernel_rfl) (by kernel_rfl) (by kernel_rfl) (Qhh os _)) ?_
 intro W base args ds gs before hval0 hW _ hsz0 hL _;clear hsz0;have hval:∀ (j:Nat) t v,Tryz.f7.params[j]?=some t→args[j]?=some v→Value.okWide Tryz.prog W .any base t v:=hval0;have hW':=hW;obtain ⟨p,q,hA0,hV,rfl,hfz,hnd⟩:=hW;have hA:DataW.TrodAll enc Tryz.prog W 0 (fun _=>true) true Tryz.f7.params.toList args.toList ds p:=hA0;rw [Tryz.params7] at hA hval;obtain ⟨v0,vs0,d0,ds0,p0,q0,hargs,rfl,rfl,h0,r0⟩:=trodAll_cons hA;obtain ⟨v1,vs1,d1,ds1,p1,q1,rfl,rfl,rfl,h1,r1⟩:=trodAll_cons r0;obtain ⟨rfl,rfl,rfl⟩:=trodAll_nil r1;obtain rfl:args=#[v0,v1]:=by cases args;simp_all
 obtain ⟨rfl,rfl⟩:=trodVars_none hV;obtain ⟨a0,rfl,rfl,rfl,w0⟩:=open_int Tryz.underlying5 (hval 0 5 v0 rfl rfl) h0;have hb0:=bounds_u8 w0;obtain ⟨a1,rfl,rfl,rfl⟩:=open_bool Tryz.underlying4 (hval 1 4 v1 rfl rfl) h1;clear hA0 hval0;have hg:=Qgh hL;refine (Qmx a0 a1 W hb0 hg).mono fun e W' ⟨he,bel⟩=>?_
 subst he;exact ⟨_,rfl,_,_,_,[],_,[],hW',trodAll_mk1 (shut_bool Tryz.underlying4 _),(trodAll_cons_mk (shut_int Tryz.underlying5 w0) (trodAll_cons_mk (shut_bool Tryz.underlying4 _) trodAll_mk0)),rfl,bel.frame _,fun h=>by cases h⟩
theorem jf0:Rows.manyMostRow.wf (OpenSpec.ofChange Rows.manyMostSpec)=true:=by kernel_rfl
theorem jf1:laidOutB Tryz.prog=true:=by kernel_rfl
theorem jf2:mapsRowed Tryz.prog=true:=by kernel_rfl
theorem jf3:Tryz.f7.params.all (Tryz.prog.readableRec ·)=true:=by kernel_rfl
theorem jf4:namedTie Tryz.prog Rows.manyMostRow.named Rows.manyMostSpec.vars=true:=by kernel_rfl
theorem jf5:(Rows.manyMostRow.stops == [])=true:=by kernel_rfl
theorem jf6:(Tryz.prog.stops == [])=true:=by kernel_rfl
theorem jf7:(Rows.manyMostRow.knobs == [])=true:=by kernel_rfl
theorem jf8:(Tryz.prog.stopKnobs == [])=true:=by kernel_rfl
theorem jf9:(Rows.manyMostRow.inPlace == Tryz.prog.inPlace 7)=true:=by kernel_rfl
theorem jf10:(Rows.manyMostRow.unfollowed == Tryz.prog.unfollowed 7)=true:=by kernel_rfl
theorem jf11:(Rows.manyMostRow.recurses == Tryz.prog.recurses 7)=true:=by kernel_rfl
theorem jf12:(Rows.manyMostRow.named == Tryz.prog.varsNamed 7)=true:=by kernel_rfl
theorem jf13:(Rows.manyMostRow.maps == (Tryz.f7.params.toList ++Rows.manyMostSpec.plain.varTypes Tryz.prog).any (Tryz.prog.mapsRec ·))=true:=by kernel_rfl
theorem jf14:(Rows.manyMostRow.ifaces == (Tryz.f7.params.toList ++Rows.manyMostSpec.plain.varTypes Tryz.prog).any (Tryz.prog.ifacesRec ·))=true:=by kernel_rfl
theorem jf15:(Rows.manyMostRow.mapsOut == Tryz.prog.mapsAmong Tryz.f7.resultTypes.toList)=true:=by kernel_rfl
theorem jf16:(Rows.manyMostRow.loops == (Tryz.f7.params.toList ++Rows.manyMostSpec.plain.varTypes Tryz.prog).any (Tryz.prog.loopsFrom ·))=true:=by kernel_rfl
theorem jf17:(Rows.manyMostRow.wideKeys == (Tryz.f7.params.toList ++Rows.manyMostSpec.plain.varTypes Tryz.prog ++Tryz.f7.resultTypes.toList).any (Tryz.prog.wideKeysFrom ·))=true:=by kernel_rfl
theorem jf18:Rows.manyMostSpec.vars.all (Tryz.prog.varReadable ·)=true:=by kernel_rfl
theorem jf19:Tryz.f7.resultTypes.all (fun t=>Tryz.prog.readableRec t && decide (t<Tryz.prog.types.size))=true:=by kernel_rfl
theorem jf20:(Rows.manyMostRow.ifacesOut == Tryz.f7.resultTypes.toList.any (Tryz.prog.ifacesRec ·))=true:=by kernel_rfl
theorem jf21:(Rows.manyMostRow.loopsOut == Tryz.f7.resultTypes.toList.any (Tryz.prog.loopsFrom ·))=true:=by kernel_rfl
theorem jf22:(Rows.manyMostRow.plainKeys == Tryz.prog.plainKeys)=true:=by kernel_rfl
theorem jf23:Rows.manyMostRow.shortTexts.isNone=true:=by kernel_rfl
theorem jf24:Tryz.prog.stopsHeard=true:=by kernel_rfl
theorem jf25:Tryz.prog.mayEnter=true:=by kernel_rfl
theorem jf26:(Rows.manyMostRow.lifted == Tryz.prog.liftsFinal)=true:=by kernel_rfl
theorem jf27:(Tryz.prog.make == some Rows.manyMostRow.make)=true:=by kernel_rfl
theorem jf28:(Rows.manyMostRow.kinds == (if Rows.manyMostRow.domain.isEmpty then [] else Tryz.f7.params.toList.map fun t=>match Tryz.prog.underlying t with|some (.int k)=>some k|_=>none))=true:=by kernel_rfl
theorem jf29:(Rows.manyMostRow.pinned == Rows.manyMostRow.pinnedBy)=true:=by kernel_rfl
theorem jf30:(Rows.manyMostRow.veiled == (Tryz.f7.params.toList ++Rows.manyMostSpec.plain.varTypes Tryz.prog ++Tryz.f7.resultTypes.toList).any (Tryz.prog.veiledRec ·))=true:=by kernel_rfl
theorem jf31:Rows.manyMostRow.veiledFits Tryz.prog Tryz.f7.params.toList (Tryz.f7.params.toList ++Rows.manyMostSpec.plain.varTypes Tryz.prog ++Tryz.f7.resultTypes.toList)=true:=by kernel_rfl
set_option maxRecDepth 100000 in
theorem closed:joinedFacts Tryz.prog 7 Tryz.f7 Rows.manyMostSpec Rows.manyMostRow=true:=by
 simp only [joinedFacts,Bool.and_eq_true];exact ⟨⟨⟨⟨⟨⟨⟨⟨⟨⟨⟨⟨⟨⟨⟨⟨⟨⟨⟨⟨⟨⟨⟨⟨⟨⟨⟨⟨⟨⟨⟨jf0,jf1⟩,jf2⟩,jf3⟩,jf4⟩,jf5⟩,jf6⟩,jf7⟩,jf8⟩,jf9⟩,jf10⟩,jf11⟩,jf12⟩,jf13⟩,jf14⟩,jf15⟩,jf16⟩,jf17⟩,jf18⟩,jf19⟩,jf20⟩,jf21⟩,jf22⟩,jf23⟩,jf24⟩,jf25⟩,jf26⟩,jf27⟩,jf28⟩,jf29⟩,jf30⟩,jf31⟩
theorem named : Tryz.prog.funcNamed "roundsman/roundsmanlaw23.ManyMost" = some 7 := by kernel_rfl
theorem inst:Tryz.f7.isInstance Tryz.prog Rows.manyMostRow.origin Rows.manyMostRow.targs:=of_decide_eq_true (by kernel_rfl)
theorem wrap:Tryz.f7.isWrapper Tryz.prog Rows.manyMostRow.wrapper Rows.manyMostRow.mainSum:=by unfold Func.isWrapper;rw [if_neg (of_decide_eq_false (by kernel_rfl))];exact ⟨rfl,rfl⟩
theorem over:Rows.ManyMostSaid :=
 OpenClaim.holds_of_wide 7 Tryz.f7 rfl rfl rfl rfl rfl rfl rfl ⟨rfl,rfl,rfl,rfl,rfl⟩ rfl rfl rfl rfl rfl named Tryz.func7 closed inst wrap
  (fun os started H enc _=>lifted os started H enc)
theorem byText:Rows.manyMostRow.wfByText (OpenSpec.ofChange Rows.manyMostSpec)=true:=by kernel_rfl
theorem mainIs : Tryz.prog.mainIs = some (((true, "50a2035def9af4675d1cabe8bb01769292a43cd0b3e8ccc53597c94666fbfc99") : Bool × String).1, ((true, "50a2035def9af4675d1cabe8bb01769292a43cd0b3e8ccc53597c94666fbfc99") : Bool × String).2.toList) := by kernel_rfl
theorem looksL:true=Tryz.prog.looks []:=by kernel_rfl
theorem goes:false=Rows.manyMostRow.goesBy Tryz.prog:=by kernel_rfl
theorem proved:Rows.ManyMostCardSaid :=
 Claim7.holds_tied_plain_at .later [] [.handle] true (true, "50a2035def9af4675d1cabe8bb01769292a43cd0b3e8ccc53597c94666fbfc99") true
  over (fun _ h=>by cases h) byText (fun _ h=>by cases h) manyMost_row_tie rfl ⟨rfl,rfl⟩ mainIs rfl
  (fun f fn hf hfn=>by
   obtain rfl:f=7:=Option.some.inj (named.symm.trans hf) |>.symm
   obtain rfl:fn=Tryz.f7:=(Option.some.inj (Tryz.func7.symm.trans hfn)).symm
   exact ⟨looksL,fun j t ht=>by
    rw [Tryz.params7] at ht
    rcases j with _|_|j
    · obtain rfl:t=5:=by simpa using ht.symm
      exact (show Tryz.prog.wantsStandIn 5=false by kernel_rfl)
    · obtain rfl:t=4:=by simpa using ht.symm
      exact (show Tryz.prog.wantsStandIn 4=false by kernel_rfl)
    · simp at ht⟩)
  goes
#print axioms proved
end ManyMostDone
end Go.Proofs.YteaoiabikjnkeaaGreatDoor
