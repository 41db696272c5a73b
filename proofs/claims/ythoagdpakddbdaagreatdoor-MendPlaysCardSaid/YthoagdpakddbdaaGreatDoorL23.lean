/- Parts of the proof: RoL, NtQ, CpD, MeI. -/
import Derived.Test.YthoagdpakddbdaaGreatDoorL22
namespace Go.Proofs.YthoagdpakddbdaaGreatDoor
open Go.RowKit Go.Proofs.Tryz
attribute [local go_sem ↓] Go.wp_at_zero Go.wp_at_succ
set_option maxHeartbeats 2000000 in
theorem Qvt (A B C NX TX Q G:Option Addr)(n m k c d e cx ct L cq cg i q a b s t:Nat)(xA xB xC xE:Value)(N:Qai) (ls:List (List Int)) (l:List Int) (x:Qak) (w:World) (h:Qbc w A B C n m k N) (hok:Qav N) (hnx:RdT w NX m (Qkd N)) (htx:RdT w TX m (Qkl N)) (hq:RdT w Q L ls) (hP:Qbw N.vs.length ls) (hG:RdG w G L (gatesOf N.ar ls))
 (hl:ls[i]?=some l) (hx:(gateRow N.ar l)[q]?=some x) (ha:x.1[a]?=some (s:Int)) (hb:x.2[b]?=some (t:Int)) :
 Calls prog 60 #[.agg #[.slice A n c,.slice B m d,.slice C k e,.slice NX m cx,.slice TX m ct],.agg #[xA,xB,xC,.slice Q L cq,.slice G L cg,xE],.agg #[.int .i64 ((i:Int)+1),.int .i64 q,.int .i64 a,.int .i64 b]] w fun r w'=>(∃ v,r=.returned (.int .i64 v)∧Qgr N (Qcw l q) s t v)∧Below w.heap.size w w':=by
 have hL6:L≤6:=by rw [←hq.1];exact hP.l6
 have hLL:=hq.1;have hiL:i<L:=by rw [←hLL];exact (Zs hl).1
 have hlv:=hok.lv;have hla:=hok.la;have hlm:N.ar.length=m:=h.2.1.1;have hln:N.vs.length=n:=h.1.1
 have hqM:q≤4096:=by
  have h1:=hP.lvl l (Zm hl);have h2:=Qbq (l:=l) (n:=(N.vs.length:Int)) (fun x hx=>h1.hi x hx) (by omega);have h3:=(Zs hx).1;rw [Qaq] at h3;omega
 have hgx:=Qbn hx;obtain ⟨l0,hl0⟩:∃ l,ls[0]?=some l:=⟨_,Zg (by omega)⟩;have hlen:=(hP.lvl l (Zm hl)).len;have hlen0:=(hP.lvl l0 (Zm hl0)).len
 have hs:s<m:=by
  obtain ⟨y,hy,_⟩:=(Qdm hx).1 (Zm ha);rw [←hlm];exact (Zs hy).1
 have ht:t<m:=by
  obtain ⟨y,hy,_⟩:=(Qci hx).1 (Zm hb);rw [←hlm];exact (Zs hy).1
 have hab:a<x.1.length:=(Zs ha).1
 have hbb:b<x.2.length:=(Zs hb).1
 have HGT:=Zh (fun V (hV:Below w.heap.size w V)=>Qoo xA xB xC (.slice Q L cq) xE G L cg i q N.ar ls l x V (hG.le (Le.below hV)) hl hx (by omega) (by omega));have HMK:=Zh (fun V (hV:Below w.heap.size w V)=>Qrh Q L cq i n (q:Int) ls l l0 V (hq.below hV) hl (by omega) hl0 (by rw [hlen,hln]) (by rw [hlen0,hln]) (by omega));have HIS:=Zh (fun V (hV:Below w.heap.size w V) (MA:Option Addr) (hm:RdB V MA n (Qcw l (q:Int)))=>Qos A B C NX TX n m k c d e cx ct s t N MA n (Qcw l (q:Int)) V (h.below hV) hok (hnx.below hV) (htx.below hV) hm hs ht);have HA:=Zh ha;have HB:=Zh hb;have HLN:=Zh (show (Qcw l (q:Int)).length=n by rw [Qhy,hlen,hln])
 have i1:(0:Int)≤(a:Int):=by omega
 have i2:(0:Int)≤(b:Int):=by omega
 clear h hok hnx htx hq hP hG hl hx ha hb hl0 hlen hlen0 hLL hlm hln
 go_enter func60,ntmps60
 go_wp2_with fail
 (refine Qac ?_;intro w1 hw1)
 have hb1:Below w.heap.size w w1:=by rw [hw1];exact Qaf
 have hR1:Blk w1 w.heap.size 131 #[.slice A n c,.slice B m d,.slice C k e,.slice NX m cx,.slice TX m ct]:=by
  rw [hw1]
  repeat (first|(refine Blk.new' _ _ _ ?_ <;> simp <;> done)|apply Blk.alloc)
 have hO1:Blk w1 (w.heap.size+1) 38 #[xA,xB,xC,.slice Q L cq,.slice G L cg,xE]:=by
  rw [hw1]
  repeat (first|(refine Blk.new' _ _ _ ?_ <;> simp <;> done)|apply Blk.alloc)
 have hE1:Blk w1 (w.heap.size+1+1) 97 #[.int .i64 ((i:Int)+1),.int .i64 q,.int .i64 a,.int .i64 b]:=by
  rw [hw1]
  repeat (first|(refine Blk.new' _ _ _ ?_ <;> simp <;> done)|apply Blk.alloc)
 clear hw1;with_reducible refine (HGT.out w1 hb1).mono ?_
 rintro r w2 ⟨A1,n1,c1,A2,n2,c2,rfl,h1,h2,hb2⟩;have hbw2:=Zb hb1 hb2;have hR2:=hR1.below hb2 hR1.lt;have hO2:=hO1.below hb2 hO1.lt;have hE2:=hE1.below hb2 hE1.lt;have H1:=Zh h1;have H2:=Zh h2;have hn1:=h1.1;have hn2:=h2.1;clear h1 h2 hb1 hb2 hR1 hO1 hE1 HGT
 go_wp2_with fail
 (refine Qag ?_;intro w3 hw3)
 have hb3:Below w2.heap.size w2 w3:=by rw [hw3];exact Qaf
 have hX3:Blk w3 w2.heap.size 95 #[.slice A1 n1 c1,.slice A2 n2 c2]:=by rw [hw3];exact Blk.new _ _ _
 clear hw3;obtain ⟨ab,ao,z1,rfl,hz1,cz1⟩:=(H1.out.below hb3).at_ (i:=a) (by omega);rw [HA.out] at hz1
 cases hz1
 obtain ⟨bb,bo,z2,rfl,hz2,cz2⟩:=(H2.out.below hb3).at_ (i:=b) (by omega);rw [HB.out] at hz2
 cases hz2
 have hR3:=hR2.below hb3 hR2.lt;have hO3:=hO2.below hb3 hO2.lt;have hE3:=hE2.below hb3 hE2.lt;have hbw3:=Zb hbw2 hb3;have i3:(a:Int)<(n1:Int):=by omega
 have i4:(b:Int)<(n2:Int):=by omega
 have HSX:=Zh (show ∀ V,Below w3.heap.size w3 V→V.cell? ⟨w.heap.size,0,none⟩=some (.slice A n c)∧V.cell? ⟨w.heap.size,1,none⟩=some (.slice B m d)∧V.cell? ⟨w.heap.size,2,none⟩=some (.slice C k e)∧V.cell? ⟨w.heap.size,3,none⟩=some (.slice NX m cx)∧V.cell? ⟨w.heap.size,4,none⟩=some (.slice TX m ct) ∧
  V.cell? ⟨w.heap.size+1,3,none⟩=some (.slice Q L cq)∧V.cell? ⟨w.heap.size+1+1,0,none⟩=some (.int .i64 ((i:Int)+1))∧V.cell? ⟨w.heap.size+1+1,1,none⟩=some (.int .i64 q)∧V.cell? ⟨w.heap.size+1+1,2,none⟩=some (.int .i64 a)∧V.cell? ⟨w.heap.size+1+1,3,none⟩=some (.int .i64 b) ∧
  V.cell? ⟨w2.heap.size,0,none⟩=some (.slice (some ⟨ab,ao,none⟩) n1 c1)∧V.cell? ⟨w2.heap.size,1,none⟩=some (.slice (some ⟨bb,bo,none⟩) n2 c2)∧V.cell? ⟨ab,ao+a,none⟩=some (.int .i64 s)∧V.cell? ⟨bb,bo+b,none⟩=some (.int .i64 t) from
  fun V hV=>⟨by rw [(hR3.below hV hR3.lt).cell];rfl,by rw [(hR3.below hV hR3.lt).cell];rfl,by rw [(hR3.below hV hR3.lt).cell];rfl,by rw [(hR3.below hV hR3.lt).cell];rfl,by rw [(hR3.below hV hR3.lt).cell];rfl,by rw [(hO3.below hV hO3.lt).cell];rfl,by rw [(hE3.below hV hE3.lt).cell];rfl,by rw [(hE3.below hV hE3.lt).cell];rfl,by rw [(hE3.below hV hE3.lt).cell];rfl,by rw [(hE3.below hV hE3.lt).cell];rfl,
   by rw [(hX3.below hV hX3.lt).cell];rfl,by rw [(hX3.below hV hX3.lt).cell];rfl,Zc hV (Zn _) cz1,Zc hV (Zn _) cz2⟩)
 clear hR2 hO2 hE2 hR3 hO3 hE3 hX3 cz1 cz2 hbw2 hb3;refine wp_region_held_drew (S:=fun V=>Below w3.heap.size w3 V) (by kernel_rfl) (Zr _ _).drew (fun _=>?_);refine tz 0 14 ?_;refine tz 1 15 ?_;refine tz 2 16 ?_;refine tz 3 17 ?_;refine tz 4 18 ?_;refine tz 5 19 ?_;refine tz 6 20 ?_;refine tz 7 21 ?_;refine tz 8 22 ?_;refine tz 9 23 ?_;refine tz 10 24 ?_;refine tz 11 25 ?_;refine tz 12 26 ?_;refine tz 13 27 ?_;refine tz 14 28 ?_;refine tz 15 29 ?_;refine tz 16 30 ?_;refine tz 17 31 ?_;refine tz 18 32 ?_;refine Zk 19 (fun K hK=>?_);go_simp;with_reducible refine (HMK.out _ (hbw3.trans ((Zr _ _).drew.mono hbw3.size))).mono ?_
 rintro r w4 ⟨bm,rfl,hbm,_,hb4⟩;have hb4':Below w3.heap.size w3 w4:=(Zr _ _).drew.trans hb4;go_simp;refine hK.out _ _ hb4' (fun _=>?_);clear hK K;refine Zk 20 (fun K hK=>?_);go_simp;with_reducible refine (HIS.out w4 (Zb hbw3 hb4') _ (hbm.rdB HLN.out)).mono ?_
 rintro r w5 ⟨⟨v,rfl,hv⟩,hb5⟩;have hb5':=Zb hb4' hb5;go_simp;refine hK.out _ _ hb5' (fun _=>?_);clear hK K;refine tz 21 6 ?_;refine Zd ?_;have HV:=Zh hv;have HB5:=Zh (Zb hbw3 hb5');clear hv hb4 hb5 hb4' hb5' hbm HSX
 go_wp2_with fail
 go_ret
 exact ⟨⟨v,rfl,HV.out⟩,HB5.out⟩
set_option maxHeartbeats 2000000 in
theorem Qnv (A B C Q G AE:Option Addr)(n m k c d e L cq cg ce:Nat)(EL:List Ent)(xA xB xC:Value)(N:Qai) (ls:List (List Int)) (w:World) (h:Qbc w A B C n m k N) (hok:Qav N) (hq:RdT w Q L ls) (hP:Qbw N.vs.length ls) (hG:RdG w G L (gatesOf N.ar ls)) (hE:Rds w 4 AE EL.length (Qeh EL)) (hEl:EL.length=Qbr (gatesOf N.ar ls)) (hEP:EntP N ls EL) (hNC:Qbr (gatesOf N.ar ls)≤1000000000) :
 Calls prog 25 #[.agg #[.slice A n c,.slice B m d,.slice C k e],.agg #[xA,xB,xC,.slice Q L cq,.slice G L cg,.slice AE EL.length ce]] w fun r w'=>∃ A' c' cl,r=.returned (.slice A' (List.length cl) c')∧RdI w' A' cl.length cl∧Qfd N ls cl∧cl.length≤c'∧Below w.heap.size w w':=by
 obtain ⟨NE,hNE⟩:∃ NE,NE=EL.length:=⟨_,rfl⟩;rw [←hNE] at hE ⊢;have hNE9:NE≤1000000000:=by omega
 have HNE:=Zh (show NE=Qbr (gatesOf N.ar ls) by rw [hNE];exact hEl)
 have HNL:=Zh hNE;have HOF:=Zh (fun V (hV:Below w.heap.size w V)=>Qwa A B C n m k c d e N V (h.below hV) hok);have HCO:=Zh (fun (NX TX:Option Addr) (cx ct:Nat) (i q a b s t:Nat) (l:List Int) (x:Qak) V (hV:Below w.heap.size w V) (hnx:RdT V NX m (Qkd N)) (htx:RdT V TX m (Qkl N)) hl hx ha hb=>Qvt A B C NX TX Q G n m k c d e cx ct L cq cg i q a b s t xA xB xC (.slice AE NE ce) N ls l x V (h.below hV) hok hnx htx (hq.below hV) hP (hG.le (Le.below hV)) hl hx ha hb);have HE:=Zh hE;have HEP:=Zh hEP;have hm:m≤16384:=by rw [←h.2.1.1];exact hok.la
 clear h hok hq hP hG hE hEl hEP hNE
 go_enter func25,ntmps25
 go_wp2_with fail
 (refine Qac ?_;intro w1 hw1)
 have hb1:Below w.heap.size w w1:=by rw [hw1];exact Qaf
 have hX1:Blk w1 w.heap.size 26 #[.slice A n c,.slice B m d,.slice C k e]:=by
  rw [hw1]
  repeat (first|(refine Blk.new' _ _ _ ?_ <;> simp <;> done)|apply Blk.alloc)
 have hO1:Blk w1 (w.heap.size+1) 38 #[xA,xB,xC,.slice Q L cq,.slice G L cg,.slice AE NE ce]:=by
  rw [hw1]
  repeat (first|(refine Blk.new' _ _ _ ?_ <;> simp <;> done)|apply Blk.alloc)
 clear hw1;with_reducible refine (HOF.out w1 hb1).mono ?_
 rintro r w2 ⟨NX,cx,TX,ct,rfl,hnx,htx,hb2⟩;have hbw2:=Zb hb1 hb2;have hO2:=hO1.below hb2 hO1.lt;have HNX:=Zh hnx;have HTX:=Zh htx;clear hb1 hb2 hX1 hO1 hnx htx HOF
 go_wp2_with fail
 (refine Qag ?_;intro v1 hv1)
 have hbv:Below w2.heap.size w2 v1:=by rw [hv1];exact Qaf
 have hR:Blk v1 w2.heap.size 131 #[.slice A n c,.slice B m d,.slice C k e,.slice NX m cx,.slice TX m ct]:=by rw [hv1];exact Blk.new _ _ _
 clear hv1;have hO:=hO2.below hbv hO2.lt;have hbw:=Zb hbw2 hbv;have HBW:=Zh hbw;have HNX1:=Zh (HNX.out.below hbv);have HTX1:=Zh (HTX.out.below hbv);clear hO2 hbw2 hbv HNX HTX hbw
 go_loopw [6,7] (fun z q V=>∃ (i:Nat) (A':Option Addr) (cp:Nat) (cl:List Int),i≤NE∧q=.int .i64 i∧z=.slice A' i cp∧cl.length=i∧Own V v1.heap.size 2 1 A' i cp (Qad cl)∧RowE N ls cl∧Below v1.heap.size v1 V) (fun _ q _=>NE-(intOf q).toNat)
 case atStart=>exact ⟨0,none,0,[],Nat.zero_le _,rfl,rfl,rfl,Own.nil _ _ _ _,(fun k v hk=>by simp at hk),Zr _ _⟩
 case round =>
  obtain ⟨i,A',cp,cl,hi,rfl,rfl,hcl,hown,hrow,hbl⟩:=hrel;have HCL:=Zh hcl;have HOW:=Zh hown;have HRW:=Zh hrow;have HBL:=Zh hbl;have hOr:=hO.below hbl hO.lt;have x5:wr.cell? ⟨w.heap.size+1,5,none⟩=some (.slice AE NE ce):=Zq hOr;have xl:=hOr.lt;clear hcl hown hrow hOr
  by_cases hlt:i<NE
  rotate_left
  · obtain rfl:i=NE:=by omega
    have j1:¬((i:Int)<(i:Int)):=by omega
    clear hbl
    go_wp2_with fail
    go_ret
    refine ⟨A',cp,cl,by rw [HCL.out];rfl,?_,⟨by rw [HCL.out];exact HNE.out,HRW.out⟩,by rw [HCL.out];exact HOW.out.cap,Zb HBW.out HBL.out⟩;rw [HCL.out];exact HOW.out.rds.rdI
  obtain ⟨⟨il,iq,ia,ib⟩,he⟩:∃ e,EL[i]?=some e:=⟨_,Zg (by rw [←HNL.out];exact hlt)⟩;obtain ⟨l,x,s,t,hent⟩:=HEP.out i _ he;simp only at hent;have hEr:=HE.out.below HBW.out;have hc:=fun (q:Nat) (u:Value) (hq:q<4) (hu:(Qit (il,iq,ia,ib))[q]?=some u)=>hEr.2 (i*4+q) u (by rw [Qqj EL i _ he q hq];exact hu)
  obtain ⟨eb,eo,rfl,c0⟩:=hc 0 _ (by omega) rfl;obtain ⟨_,_,e1,c1⟩:=hc 1 _ (by omega) rfl
  cases e1
  obtain ⟨_,_,e2,c2⟩:=hc 2 _ (by omega) rfl
  cases e2
  obtain ⟨_,_,e3,c3⟩:=hc 3 _ (by omega) rfl
  cases e3
  rw [←Nat.add_assoc] at c0 c1 c2 c3;rw [Nat.add_zero] at c0;simp only at c0 c1 c2 c3;have j1:(i:Int)<(NE:Int):=by omega
  have j2:(0:Int)≤(i:Int):=by omega
  have HEN:=Zh hent
  have HSX:=Zh (show ∀ V,Below v1.heap.size v1 V→V.cell? ⟨w2.heap.size,0,none⟩=some (.slice A n c)∧V.cell? ⟨w2.heap.size,1,none⟩=some (.slice B m d)∧V.cell? ⟨w2.heap.size,2,none⟩=some (.slice C k e)∧V.cell? ⟨w2.heap.size,3,none⟩=some (.slice NX m cx)∧V.cell? ⟨w2.heap.size,4,none⟩=some (.slice TX m ct) ∧
   V.cell? ⟨w.heap.size+1,0,none⟩=some xA∧V.cell? ⟨w.heap.size+1,1,none⟩=some xB∧V.cell? ⟨w.heap.size+1,2,none⟩=some xC∧V.cell? ⟨w.heap.size+1,3,none⟩=some (.slice Q L cq)∧V.cell? ⟨w.heap.size+1,4,none⟩=some (.slice G L cg)∧V.cell? ⟨w.heap.size+1,5,none⟩=some (.slice (some ⟨eb,eo,none⟩) NE ce) ∧
   V.cell? ⟨eb,eo+i*4,none⟩=some (.int .i64 ((il:Int)+1))∧V.cell? ⟨eb,eo+i*4+1,none⟩=some (.int .i64 iq)∧V.cell? ⟨eb,eo+i*4+2,none⟩=some (.int .i64 ia)∧V.cell? ⟨eb,eo+i*4+3,none⟩=some (.int .i64 ib) from
   fun V hV=>by
    have hR':=hR.below hV hR.lt;have hO':=hO.below hV hO.lt
    exact ⟨Zq hR',Zq hR',Zq hR',Zq hR',Zq hR',Zq hO',Zq hO',Zq hO',Zq hO',Zq hO',Zq hO',
     Zc hV (Zn _) c0,Zc hV (Zn _) c1,Zc hV (Zn _) c2,Zc hV (Zn _) c3⟩)
  clear hent hc he hEr c0 c1 c2 c3
  go_wp2_with fail
  refine wp_region_held_drew (S:=fun V=>Below v1.heap.size v1 V) (by kernel_rfl) HBL.out.drew (fun _=>?_);refine tz 0 17 ?_;refine tz 1 18 ?_;refine tz 2 19 ?_;refine tz 3 20 ?_;refine tz 4 21 ?_;refine tz 5 22 ?_;refine tz 6 23 ?_;refine tz 7 24 ?_;refine Zk 8 (fun K hK=>?_);go_simp;with_reducible refine (HCO.out NX TX cx ct il iq ia ib s t l x _ (Zb HBW.out HBL.out.drew) (HNX1.out.below HBL.out.drew) (HTX1.out.below HBL.out.drew) HEN.out.hl HEN.out.hx HEN.out.ha HEN.out.hb).mono ?_
  rintro r w4 ⟨⟨u,rfl,hu⟩,hb4⟩;have hb4':Below wr.heap.size wr w4:=(Zr _ _).drew.trans hb4;have HU:=Zh (show EntV N ls cl.length u from ⟨il,l,iq,x,ia,ib,s,t,by rw [HCL.out];exact HEN.out,hu⟩)
  have HB4:=Zh (Zb HBL.out hb4');have HO4:=Zh (HOW.out.below hb4');clear hu hb4 hb4';go_simp;refine hK.out _ _ HB4.out (fun _=>?_);clear hK K;refine Zk 9 (fun K hK=>?_);go_simp;refine hK.out _ _ (Zb HB4.out Qaf) (fun _=>?_);clear hK K;obtain ⟨W5,hW5⟩:∃ W5,W5=w4.alloc (.cells #[.int .i64 u] 2):=⟨_,rfl⟩;rw [←hW5];have hb5:Below w4.heap.size w4 W5:=by rw [hW5];exact Qaf
  have hrd:Rds W5 1 (some ⟨w4.heap.size,0,none⟩) 1 (Qad [u]):=by rw [hW5];exact (Blk.new w4 2 #[.int .i64 u]).rds rfl
  have hown:=HO4.out.below hb5;have HB5:=Zh (Zb HB4.out hb5);have hsz:v1.heap.size≤W5.heap.size:=HB5.out.size;clear hW5 hb5;refine Zk 10 (fun K hK=>?_);with_reducible refine Qar (some 27) rfl rfl (.tmp 17) (.tmp 26) 30 rfl 2 _ 1 8 Qir underlying30 rfl (by omega) rfl rfl hown hrd (Qam _) (by omega) (by omega) hsz ?_
  intro A3 c3 w8 ho8 hg8 hat8;have hb8:=Zo HB5.out hg8 hown hsz;refine hK.out _ _ hb8 (fun _=>?_);clear hK K;simp only [Act.put,Yi,Yj,Yk];refine tz 11 6 ?_;refine Zd ?_;have HB8:=Zh hb8;have HO8:=Zh (show Own w8 v1.heap.size 2 1 A3 (i+1) c3 (Qad (cl ++[u])) by rw [Qbi];exact ho8)
  have HR8:=Zh (HRW.out.push HU.out);clear hown hrd hsz ho8 hg8 hat8 hb8 HSX
  go_wp2_with fail
  go_roundw
  case rel=>exact ⟨i+1,A3,c3,cl ++[u],by omega,by go_num,rfl,by rw [Yp,HCL.out];rfl,HO8.out,HR8.out,HB8.out⟩
  case measure=>simp [intOf];omega
def YwD (W:World)(B:Nat)(A:Option Addr)(n c:Nat)(xs:List Value)(ls:List Qby):Prop :=
 Own W B 75 3 A n c xs∧ls.length=n∧(∀ (j:Nat) (t:Qby),ls[j]?=some t→∃ A2 n2 c2,xs[j*3]?=some (.int .i64 t.ins)∧xs[j*3+1]?=some (.int .i64 t.outs)∧xs[j*3+2]?=some (.slice A2 n2 c2)∧Own W B 2 1 A2 n2 c2 (Qad t.costs)∧∀ g,Qaa A2=some g→Qaa A≠some g) ∧
 ∀ (i j:Nat) (A2 A3:Option Addr) (n2 c2 n3 c3:Nat),i<j→xs[i*3+2]?=some (.slice A2 n2 c2)→xs[j*3+2]?=some (.slice A3 n3 c3)→∀ g,Qaa A2=some g→Qaa A3≠some g
theorem YwD.nil (W:World)(B:Nat):YwD W B none 0 0 [] []:=⟨Own.nil _ _ _ _,rfl,fun j l h=>by simp at h,fun i j A2 A3 n2 c2 n3 c3 _ h=>by simp at h⟩
theorem YwD.rdY {W:World}{B n c:Nat}{A:Option Addr}{xs:List Value}{ls:List Qby}(h:YwD W B A n c xs ls):RdY W A n ls :=
 ⟨h.2.1,fun i t ht=>by
  obtain ⟨A2,n2,c2,h1,h2,h3,h4,_⟩:=h.2.2.1 i t ht;obtain ⟨b,o,e,k1⟩:=h.1.rds.2 _ _ h1;obtain ⟨b',o',e',k2⟩:=h.1.rds.2 _ _ h2;rw [e] at e';cases e'
  obtain ⟨b',o',e',k3⟩:=h.1.rds.2 _ _ h3;rw [e] at e';cases e'
  exact ⟨b,o,e,k1,by rw [Nat.add_assoc];exact k2,A2,n2,c2,by rw [Nat.add_assoc];exact k3,h4.rds.rdI,h4.cap,h4.capMax⟩⟩
theorem YwD.len {W:World}{B n c:Nat}{A:Option Addr}{xs:List Value}{ls:List Qby}(h:YwD W B A n c xs ls):xs.length=ls.length*3:=by rw [h.1.1,h.2.1]
theorem YwD.slot {W:World}{B n c j n2 c2:Nat}{A A2:Option Addr}{xs:List Value}{ls:List Qby}(h:YwD W B A n c xs ls) (hx:xs[j*3+2]?=some (.slice A2 n2 c2)):∃ t,ls[j]?=some t∧Own W B 2 1 A2 n2 c2 (Qad t.costs)∧∀ g,Qaa A2=some g→Qaa A≠some g:=by
 have hl:=(Zs hx).1;rw [h.len] at hl;obtain ⟨A3,n3,c3,_,_,e,h1,h2⟩:=h.2.2.1 j _ (Zg (show j<ls.length by omega))
 rw [hx] at e
 cases e
 exact ⟨_,Zg (by omega),h1,h2⟩
theorem YwD.push {W w':World}{B E n c c' m d:Nat}{A A' R:Option Addr}{xs:List Value}{ls:List Qby}{t:Qby}(h:YwD W B A n c xs ls)(hB:B≤E)
 (hown:Own w' B 75 3 A' (n+1) c' (xs ++[.int .i64 t.ins,.int .i64 t.outs,.slice R m d])) (hg:W.grownBy w' (Qaa A)) (hat:Qaa A'=Qaa A∨Qaa A'=some W.heap.size)
 (hr:Own W E 2 1 R m d (Qad t.costs)) (hne:∀ g,Qaa R=some g→Qaa A≠some g) (hlt:∀ (j:Nat) (A2:Option Addr) (n2 c2:Nat),xs[j*3+2]?=some (.slice A2 n2 c2)→∀ g,Qaa A2=some g→g<E):YwD w' B A' (n+1) c' (xs ++[.int .i64 t.ins,.int .i64 t.outs,.slice R m d]) (ls ++[t]):=by
 have hxl:=h.len
 have new:∀ (Y:Option Addr) (e:TypeId) (s p q:Nat) (ys:List Value) (D:Nat),Own W D e s Y p q ys→(∀ g,Qaa Y=some g→Qaa A≠some g)→∀ g,Qaa Y=some g→Qaa A'≠some g:=fun Y e s p q ys D hY hn g eg=>by
  have h1:=(hY.lt g eg).2
  rcases hat with hat|hat
  · rw [hat];exact hn g eg
  · rw [hat]
    intro e2
    injection e2 with e2
    omega
 have kp:∀ (Y:Option Addr) (e:TypeId) (s p q:Nat) (ys:List Value) (D:Nat),Own W D e s Y p q ys→(∀ g,Qaa Y=some g→Qaa A≠some g)→Own w' D e s Y p q ys:=fun Y e s p q ys D hY hn=>hY.far hg (by
  cases hb:Qaa Y with
  | none=>exact .inl rfl
  | some g=>exact .inr (fun e2=>hn g hb e2.symm))
 refine ⟨hown,by simp [h.2.1],fun j t' hl=>?_,fun i j A2 A3 n2 c2 n3 c3 hij h1 h2=>?_⟩
 · rcases Nat.lt_trichotomy j ls.length with hj|hj|hj
   · rw [Yc hj] at hl
     obtain ⟨A2,n2,c2,p1,p2,p3,k2,k3⟩:=h.2.2.1 j t' hl;exact ⟨A2,n2,c2,by rw [Yc (by omega)];exact p1,by rw [Yc (by omega)];exact p2,by rw [Yc (by omega)];exact p3,kp _ _ _ _ _ _ _ k2 k3,new _ _ _ _ _ _ _ k2 k3⟩
   · subst hj
     rw [Yb (Zn _),Yy] at hl
     cases hl
     refine ⟨R,m,d,?_,?_,?_,(kp _ _ _ _ _ _ _ hr hne).mono hB,new _ _ _ _ _ _ _ hr hne⟩
     · rw [←hxl,Yb (Zn _),Yy];rfl
     · rw [←hxl,Yb (by omega),Nat.add_sub_cancel_left];rfl
     · rw [←hxl,Yb (by omega),Nat.add_sub_cancel_left];rfl
   · rw [Yd (by simp;omega)] at hl
     cases hl
 · by_cases hj:j<ls.length
   · rw [Yc (by omega)] at h1 h2
     exact h.2.2.2 i j A2 A3 n2 c2 n3 c3 hij h1 h2
   · have hjl:=(Zs h2).1
     simp only [Yp,List.length_cons,List.length_nil] at hjl;obtain rfl:j=ls.length:=by omega
     rw [Yc (by omega)] at h1;rw [←hxl,Yb (by omega),Nat.add_sub_cancel_left] at h2
     cases h2
     intro g e1 e2;have q1:=hlt i A2 n2 c2 h1 g e1;have q2:=(hr.lt g e2).1;omega
theorem YwD.below {W W':World}{B n c:Nat}{A:Option Addr}{xs:List Value}{ls:List Qby}(h:YwD W B A n c xs ls)(hb:Below W.heap.size W W'):YwD W' B A n c xs ls :=
 ⟨h.1.below hb,h.2.1,fun i l hl=>by
  obtain ⟨A',n',c',p1,p2,p3,h2,h3⟩:=h.2.2.1 i l hl;exact ⟨A',n',c',p1,p2,p3,h2.below hb,h3⟩,h.2.2.2⟩
theorem YwD.far {W W':World}{B n c:Nat}{A:Option Addr}{xs:List Value}{ls:List Qby}(h:YwD W B A n c xs ls){g:Nat} (hg:W.grownBy W' (some g)) (hB:g<B):YwD W' B A n c xs ls :=
 ⟨h.1.far hg (.inr (fun e=>by have:=(h.1.lt g e).1;omega)),h.2.1,fun i l hl=>by
  obtain ⟨A',n',c',p1,p2,p3,h2,h3⟩:=h.2.2.1 i l hl;exact ⟨A',n',c',p1,p2,p3,h2.far hg (.inr (fun e=>by have:=(h2.lt g e).1;omega)),h3⟩,h.2.2.2⟩
theorem infoRV:(Tryz.prog.info? 138).map (fun i=>(i.zero,i.size,i.bytes))=some (some (.agg #[.int .i64 0,.int .i64 0,.int .i64 0]),3,24):=by kernel_rfl
theorem infoRA:(Tryz.prog.info? 73).map (fun i=>(i.zero,i.size,i.bytes))=some (some (.agg #[.int .i64 0,.int .i64 0,.int .i64 0]),3,24):=by kernel_rfl
theorem infoRT:(Tryz.prog.info? 75).map (fun i=>(i.zero,i.size,i.bytes))=some (some (.agg #[.int .i64 0,.int .i64 0,.slice none 0 0]),3,40):=by kernel_rfl
structure CpS (w1 W:World) (V:Option Addr) (nv cv:Nat) (xv:List Value) (A:Option Addr) (na ca:Nat) (xa:List Value) (N:Option Nat):Prop where
 bel:Below w1.heap.size w1 W
 v:Own W w1.heap.size 138 3 V nv cv xv
 a:Own W w1.heap.size 73 3 A na ca xa
 dj:∀ g,Qaa V=some g→Qaa A≠some g
 nw:∀ g,N=some g→Blk W g 26 #[.slice none 0 0,.slice none 0 0,.slice none 0 0]∧w1.heap.size≤g∧Qaa V≠some g∧Qaa A≠some g
section
variable {w1 W w':World} {V A V' A':Option Addr} {nv cv na ca nv' cv' na' ca':Nat} {xv xa xv' xa':List Value} {N:Option Nat}
theorem CpS.start (w1:World):CpS w1 w1.drew none 0 0 [] none 0 0 [] none:=⟨(Zr _ _).drew,Own.nil _ _ _ _,Own.nil _ _ _ _,fun g h=>by (cases h),fun g h=>by (cases h)⟩
theorem CpS.newV (h:CpS w1 W none 0 0 [] A na ca xa N):CpS w1 (W.alloc (.cells #[] 138)) (some ⟨W.heap.size,0,none⟩) 0 0 [] A na ca xa N where
 bel:=h.bel.alloc h.bel.size _
 v:=Own.lit W #[] 0 h.bel.size (by omega) rfl
 a:=h.a.alloc _
 dj:=fun g e e'=>by have e:W.heap.size=g:=Yv e;have:=(h.a.lt _ e').2;omega
 nw:=fun g e=>by
  obtain ⟨h1,h2,h3,h4⟩:=h.nw g e;exact ⟨h1.alloc _,h2,fun e'=>by have e':W.heap.size=g:=Yv e';have:=h1.lt;omega,h4⟩
theorem CpS.newA (h:CpS w1 W V nv cv xv none 0 0 [] N):CpS w1 (W.alloc (.cells #[] 73)) V nv cv xv (some ⟨W.heap.size,0,none⟩) 0 0 [] N where
 bel:=h.bel.alloc h.bel.size _
 v:=h.v.alloc _
 a:=Own.lit W #[] 0 h.bel.size (by omega) rfl
 dj:=fun g e e'=>by have e':W.heap.size=g:=Yv e';have:=(h.v.lt _ e).2;omega
 nw:=fun g e=>by
  obtain ⟨h1,h2,h3,h4⟩:=h.nw g e;exact ⟨h1.alloc _,h2,h3,fun e'=>by have e':W.heap.size=g:=Yv e';have:=h1.lt;omega⟩
theorem CpS.newN (h:CpS w1 W V nv cv xv A na ca xa none):CpS w1 (W.alloc (.cells #[.slice none 0 0,.slice none 0 0,.slice none 0 0] 26)) V nv cv xv A na ca xa (some W.heap.size) where
 bel:=h.bel.alloc h.bel.size _
 v:=h.v.alloc _
 a:=h.a.alloc _
 dj:=h.dj
 nw:=fun g e=>by
  cases e
  exact ⟨Blk.new _ _ _,h.bel.size,fun e'=>by have:=(h.v.lt _ e').2;omega,fun e'=>by have:=(h.a.lt _ e').2;omega⟩
theorem CpS.growV (h:CpS w1 W V nv cv xv A na ca xa N)(ho:Own w' w1.heap.size 138 3 V' nv' cv' xv') (hg:W.grownBy w' (Qaa V)) (hat:Qaa V'=Qaa V∨Qaa V'=some W.heap.size):CpS w1 w' V' nv' cv' xv' A na ca xa N where
 bel:=Zo h.bel hg h.v h.bel.size
 v:=ho
 a:=h.a.far hg (by
  cases e:Qaa A with
  | none=>exact .inl rfl
  | some g=>exact .inr (fun e'=>h.dj g e'.symm e))
 dj:=fun g e e'=>by
  rcases hat with hat|hat
  · exact h.dj g (by rw [←hat];exact e) e'
  · rw [hat] at e;cases e;have:=(h.a.lt _ e').2;omega
 nw:=fun g e=>by
  obtain ⟨h1,h2,h3,h4⟩:=h.nw g e;refine ⟨h1.grown hg h3,h2,fun e'=>?_,h4⟩
  rcases hat with hat|hat
  · exact h3 (by rw [←hat];exact e')
  · rw [hat] at e';cases e';have:=h1.lt;omega
theorem CpS.growA (h:CpS w1 W V nv cv xv A na ca xa N)(ho:Own w' w1.heap.size 73 3 A' na' ca' xa') (hg:W.grownBy w' (Qaa A)) (hat:Qaa A'=Qaa A∨Qaa A'=some W.heap.size):CpS w1 w' V nv cv xv A' na' ca' xa' N where
 bel:=Zo h.bel hg h.a h.bel.size
 v:=h.v.far hg (by
  cases e:Qaa V with
  | none=>exact .inl rfl
  | some g=>exact .inr (fun e'=>h.dj g e e'.symm))
 a:=ho
 dj:=fun g e e'=>by
  rcases hat with hat|hat
  · exact h.dj g e (by rw [←hat];exact e')
  · rw [hat] at e';cases e';have:=(h.v.lt _ e).2;omega
 nw:=fun g e=>by
  obtain ⟨h1,h2,h3,h4⟩:=h.nw g e;refine ⟨h1.grown hg h4,h2,h3,fun e'=>?_⟩
  rcases hat with hat|hat
  · exact h4 (by rw [←hat];exact e')
  · rw [hat] at e';cases e';have:=h1.lt;omega
end
structure CyS (Wa W:World) (R:Option Addr) (nr cr:Nat) (xr:List Value) (T1:Option Addr) (yt:List Value):Prop where
 bel:Below Wa.heap.size Wa W
 r:Own W Wa.heap.size 2 1 R nr cr xr
 t1:yt=[]∨Rds W 3 T1 1 yt
section
variable {Wa W w':World} {R T1 R':Option Addr} {nr cr nr' cr':Nat} {xr xr' yt:List Value}
theorem CyS.start (w1:World):CyS w1 w1.drew none 0 0 [] none []:=⟨(Zr _ _).drew,Own.nil _ _ _ _,.inl rfl⟩
theorem CyS.newR (h:CyS Wa W none 0 0 [] none []):CyS Wa (W.alloc (.cells #[] 2)) (some ⟨W.heap.size,0,none⟩) 0 0 [] none []:=⟨h.bel.alloc h.bel.size _,Own.lit W #[] 0 h.bel.size (by omega) rfl,.inl rfl⟩
theorem CyS.growR (h:CyS Wa W R nr cr xr none []) (ho:Own w' Wa.heap.size 2 1 R' nr' cr' xr') (hg:W.grownBy w' (Qaa R)):CyS Wa w' R' nr' cr' xr' none []:=⟨Zo h.bel hg h.r h.bel.size,ho,.inl rfl⟩
theorem CyS.newT (h:CyS Wa W R nr cr xr none []) (a b c:Value):CyS Wa (W.alloc (.cells #[a,b,c] 75)) R nr cr xr (some ⟨W.heap.size,0,none⟩) [a,b,c]:=⟨h.bel.alloc h.bel.size _,h.r.alloc _,.inr ((Blk.new W 75 #[a,b,c]).rds rfl)⟩
end
def CyG (Wa:World)(C3:Option Addr)(j e3 n':Nat)(t:Qby)(v28 _v33 v36 v37 v38:Value)(w':World):Prop :=
 ∃ (A2:Option Addr) (c2 g:Nat),v28=.slice C3 j e3∧v36=.slice A2 n' c2∧v37=.agg #[.int .i64 t.ins,.int .i64 t.outs,.slice A2 n' c2]∧v38=.slice (some ⟨g,0,none⟩) 1 1∧CyS Wa w' A2 n' c2 (Qad t.costs) (some ⟨g,0,none⟩) [.int .i64 t.ins,.int .i64 t.outs,.slice A2 n' c2]
theorem CyG.of {Wa W:World}{C3 A2:Option Addr}{j e3 n' c2 g:Nat}{t:Qby}{a:Value} (h:CyS Wa W A2 n' c2 (Qad t.costs) (some ⟨g,0,none⟩) [.int .i64 t.ins,.int .i64 t.outs,.slice A2 n' c2]) :
 CyG Wa C3 j e3 n' t (.slice C3 j e3) a (.slice A2 n' c2) (.agg #[.int .i64 t.ins,.int .i64 t.outs,.slice A2 n' c2]) (.slice (some ⟨g,0,none⟩) 1 1) W:=⟨A2,c2,g,rfl,rfl,rfl,rfl,h⟩
theorem Qrk {P:Program}{ops:Array Oper}{Q:Exit→Act→World→Prop}{md:Region.Mode}{S:World→Prop}{G:Value→Value→Value→Value→Value→World→Prop}{L listed:Array Bool}{f0 fuel:Nat}{a:Act}{w:World}(d1 d2 d3 d4 d5:Option Tmp)(hf:fuel=f0+5)
 (hA:∀ C:Act→World→Prop,Shut (∀ v1 v2 v3 v4 v5 w',G v1 v2 v3 v4 v5 w'→C (((((a.put d1 v1).put d2 v2).put d3 v3).put d4 v4).put d5 v5) w')→wpC P md ops Q S L C 5 listed a w)
 (hB:∀ v1 v2 v3 v4 v5 w',G v1 v2 v3 v4 v5 w'→wpAnyH P md ops Q S f0 L (((((a.put d1 v1).put d2 v2).put d3 v3).put d4 v4).put d5 v5) w'):wpAnyH P md ops Q S fuel listed a w:=by
 subst hf;exact Qkx (C:=fun a' w'=>wpAnyH P md ops Q S f0 L a' w') (fun _ _ h=>h) 5 listed a w (hA _ hB)
def CpG (w1:World)(n m:Nat)(N:Qai)(_v6 v9 _v10 v13 v14 v3:Value)(w':World):Prop :=
 ∃ (V A:Option Addr) (c1 c2 g:Nat),v9=.slice V n c1∧v13=.slice A m c2∧v14=.agg #[.slice V n c1,.slice A m c2,.slice none 0 0]∧v3=.pointer (some ⟨g,0,none⟩)∧CpS w1 w' V n c1 (Qap N.vs) A m c2 (Qap N.ar) (some g)
theorem CpG.of {w1 W:World}{n m c1 c2 g:Nat}{N:Qai}{V A:Option Addr}{a b:Value} (h:CpS w1 W V n c1 (Qap N.vs) A m c2 (Qap N.ar) (some g)) :
 CpG w1 n m N a (.slice V n c1) b (.slice A m c2) (.agg #[.slice V n c1,.slice A m c2,.slice none 0 0]) (.pointer (some ⟨g,0,none⟩)) W:=⟨V,A,c1,c2,g,rfl,rfl,rfl,rfl,h⟩
theorem Qtv {P:Program}{ops:Array Oper}{Q:Exit→Act→World→Prop}{md:Region.Mode}{S:World→Prop}{G:Value→Value→Value→Value→Value→Value→World→Prop}{L listed:Array Bool}{f0 fuel:Nat}{a:Act}{w:World}(d1 d2 d3 d4 d5 d6:Option Tmp)(hf:fuel=f0+6)
 (hA:∀ C:Act→World→Prop,Shut (∀ v1 v2 v3 v4 v5 v6 w',G v1 v2 v3 v4 v5 v6 w'→C ((((((a.put d1 v1).put d2 v2).put d3 v3).put d4 v4).put d5 v5).put d6 v6) w')→wpC P md ops Q S L C 6 listed a w)
 (hB:∀ v1 v2 v3 v4 v5 v6 w',G v1 v2 v3 v4 v5 v6 w'→wpAnyH P md ops Q S f0 L ((((((a.put d1 v1).put d2 v2).put d3 v3).put d4 v4).put d5 v5).put d6 v6) w'):wpAnyH P md ops Q S fuel listed a w:=by
 subst hf;exact Qkx (C:=fun a' w'=>wpAnyH P md ops Q S f0 L a' w') (fun _ _ h=>h) 6 listed a w (hA _ hB)
set_option maxHeartbeats 4000000 in
set_option maxRecDepth 20000 in
theorem Qsc (A B C:Option Addr)(n m k c d e:Nat)(N:Qai)(w:World)(h:Qbc w A B C n m k N)(hn:n≤1000000)(hm:m≤1000000)(hk:k≤1000000)(hc:∀ t∈N.ts,t.costs.length≤1000000) :
 Calls prog 58 #[.agg #[.slice A n c,.slice B m d,.slice C k e]] w fun r w'=>∃ A' B' C' c' d' e' K xs,r=.returned (.agg #[.slice A' n c',.slice B' m d',.slice C' k e'])∧w.heap.size≤K ∧
  Own w' w.heap.size 138 3 A' n c' (Qap N.vs)∧Own w' w.heap.size 73 3 B' m d' (Qap N.ar)∧YwD w' K C' k e' xs N.ts ∧
  (∀ g,Qaa A'=some g→Qaa B'≠some g)∧(∀ g,Qaa A'=some g→g<K)∧(∀ g,Qaa B'=some g→g<K)∧Below w.heap.size w w':=by
 have HV0:=Zh h.1;have HA0:=Zh h.2.1;have HY:=Zh h.2.2;have HC:=Zh hc;clear h hc
 go_enter func58,ntmps58
 go_wp2_with fail
 (refine Qag ?_;intro w1 hw1)
 have hb1:Below w.heap.size w w1:=by rw [hw1];exact Qaf
 have hJ:Blk w1 w.heap.size 26 #[.slice A n c,.slice B m d,.slice C k e]:=by rw [hw1];exact Qaz
 have hR:Blk w1 (w.heap.size+1) 26 #[.slice none 0 0,.slice none 0 0,.slice none 0 0]:=by rw [hw1];exact Qaz
 have hz1:w1.heap.size=w.heap.size+2:=by rw [hw1];simp
 clear hw1;obtain ⟨j0,j1,j2⟩:=hJ.three;have HSX:=Zh (show ∀ X,Below w1.heap.size w1 X→X.cell? ⟨w.heap.size,0,none⟩=some (.slice A n c)∧X.cell? ⟨w.heap.size,1,none⟩=some (.slice B m d) from fun X hX=>⟨Zc hX (Zn _) j0,Zc hX (Zn _) j1⟩)
 have HV:=Zh (show ∀ X,Below w1.heap.size w1 X→Rds X 3 A n (Qap N.vs) from fun X hX=>((HV0.out.below hb1).below hX).rds)
 have HA:=Zh (show ∀ X,Below w1.heap.size w1 X→Rds X 3 B m (Qap N.ar) from fun X hX=>((HA0.out.below hb1).below hX).rds)
 clear j0 j1 j2
 go_wp2_with fail
 refine wp_region_held_drew (S:=fun X=>Below w1.heap.size w1 X) (by kernel_rfl) (Zr _ _).drew (fun _=>?_);refine tz 1 7 ?_;refine tz 2 8 ?_;refine tz 5 11 ?_;refine tz 6 12 ?_;have h0:=CpS.start w1;obtain ⟨W0,q⟩:∃ X,X=w1.drew:=⟨_,rfl⟩;rw [←q] at h0 ⊢;clear q;refine Qtv (G:=CpG w1 n m N) (L:=#[true,true,true,true,true,true,true,true,true,true,false]) (f0:=1) (some 6) (some 9) (some 10) (some 13) (some 14) (some 3) rfl (fun C0 hC=>?_) ?_
 · skip
   have h:=h0;clear h0;obtain ⟨W,rfl⟩:∃ X,X=W0:=⟨_,rfl⟩
   repeat' (first
    | exact ⟨by kernel_rfl,hC.out (.slice (some ⟨g0,0,none⟩) 0 0) _ (.slice (some ⟨g4,0,none⟩) 0 0) _ _ _ _ (CpG.of h)⟩
    | exact Qdv.nil
    | refine Qdv.cons (o:=_) rfl (fun K hK=>?_) ?_
    | refine Qan (rs:=[0,4,9]) (by decide +kernel) (by simp) ?_
    | refine Qan (rs:=[3,4,9]) (by decide +kernel) (by simp) ?_
    | refine Qan (rs:=[0,9]) (by decide +kernel) (by simp) ?_
    | refine Qan (rs:=[0,4]) (by decide +kernel) (by simp) ?_
    | refine Qan (rs:=[4,9]) (by decide +kernel) (by simp) ?_
    | refine Qan (rs:=[3,9]) (by decide +kernel) (by simp) ?_
    | refine Qan (rs:=[3,4]) (by decide +kernel) (by simp) ?_
    | refine Qan (rs:=[0]) (by decide +kernel) (by simp) ?_
    | refine Qan (rs:=[7,9]) (by decide +kernel) (by simp) ?_
    | refine Qan (rs:=[4]) (by decide +kernel) (by simp) ?_
    | refine Qan (rs:=[3]) (by decide +kernel) (by simp) ?_
    | refine Qan (rs:=[8,9]) (by decide +kernel) (by simp) ?_
    | refine Qan (rs:=[7]) (by decide +kernel) (by simp) ?_
    | refine Qan (rs:=[9]) (by decide +kernel) (by simp) ?_
    | refine Qan (rs:=[8]) (by decide +kernel) (by simp) ?_
    | (with_reducible refine Qar (some 9) rfl rfl (.tmp 6) (.tmp 8) 22 rfl 138 _ 3 24 infoRV underlying22 rfl (by omega) rfl rfl h.v (HV.out W h.bel) (Qgf _) (by omega) (by omega) h.bel.size ?_;intro X c W ho hg hat;rw [Yz,List.nil_append] at ho;have h':=h.growV ho hg hat;refine hK.out _ _ h'.bel (fun _=>?_);clear hK K ho hg hat h;have h:=h';clear h';simp only [Act.put,Yi,Yj,Yk,Yz])
    | (with_reducible refine Qar (some 13) rfl rfl (.tmp 10) (.tmp 12) 23 rfl 73 _ 3 24 infoRA underlying23 rfl (by omega) rfl rfl h.a (HA.out W h.bel) (Qgf _) (by omega) (by omega) h.bel.size ?_;intro X c W ho hg hat;rw [Yz,List.nil_append] at ho;have h':=h.growA ho hg hat;refine hK.out _ _ h'.bel (fun _=>?_);clear hK K ho hg hat h;have h:=h';clear h';simp only [Act.put,Yi,Yj,Yk,Yz])
    | (go_simp;first
     | (refine hK.out _ _ (h.newV).bel (fun _=>?_);have h':=h.newV;obtain ⟨g0,q2⟩:∃ g,g=W.heap.size:=⟨_,rfl⟩;obtain ⟨W,q⟩:∃ X,X=W.alloc (.cells #[] 138):=⟨_,rfl⟩;rw [←q] at h' ⊢;(try rw [←q2] at h' ⊢);clear hK K q q2 h;have h:=h';clear h';try simp only [Act.put,Yi,Yj,Yk])
     | (refine hK.out _ _ (h.newA).bel (fun _=>?_);have h':=h.newA;obtain ⟨g4,q2⟩:∃ g,g=W.heap.size:=⟨_,rfl⟩;obtain ⟨W,q⟩:∃ X,X=W.alloc (.cells #[] 73):=⟨_,rfl⟩;rw [←q] at h' ⊢;(try rw [←q2] at h' ⊢);clear hK K q q2 h;have h:=h';clear h';try simp only [Act.put,Yi,Yj,Yk])
     | (refine hK.out _ _ (h.newN).bel (fun _=>?_);have h':=h.newN;obtain ⟨g9,q2⟩:∃ g,g=W.heap.size:=⟨_,rfl⟩;obtain ⟨W,q⟩:∃ X,X=W.alloc (.cells #[.slice none 0 0,.slice none 0 0,.slice none 0 0] 26):=⟨_,rfl⟩;rw [←q] at h' ⊢;(try rw [←q2] at h' ⊢);clear hK K q q2 h;have h:=h';clear h';try simp only [Act.put,Yi,Yj,Yk])
     | (refine hK.out _ _ h.bel (fun _=>?_);clear hK K;try simp only [Act.put,Yi,Yj,Yk])
      | fail))
 · rintro v6 v9 v10 v13 v14 v3 W ⟨V,A5,c1,c2,g,rfl,rfl,rfl,rfl,hS⟩
   simp only [Act.put,Yi,Yj,Yk];obtain ⟨hN9,hg9,hgV,hgA⟩:=hS.nw g rfl;obtain ⟨k0,k1,k2⟩:=hN9.three;have f0:=hN9.frozen 0;have f1:=hN9.frozen 1;have f2:=hN9.frozen 2;have hbW:Below w.heap.size w W:=Zb hb1 hS.bel;refine Zk 10 (fun K hK=>?_);go_simp;refine hK.out _ _ (((hS.bel.setCell hg9 _).setCell hg9 _).setCell hg9 _) (fun _=>?_);clear hK K;refine Zd ?_;obtain ⟨w3,hw3⟩:∃ X,X=((W.setCell ⟨g,0,none⟩ (.slice V n c1)).setCell ⟨g,1,none⟩ (.slice A5 m c2)).setCell ⟨g,2,none⟩ (.slice none 0 0):=⟨_,rfl⟩;rw [←hw3];have hb3:Below w1.heap.size w1 w3:=by rw [hw3];exact ((hS.bel.setCell hg9 _).setCell hg9 _).setCell hg9 _
   have hN3:Blk w3 g 26 #[.slice V n c1,.slice A5 m c2,.slice none 0 0]:=by rw [hw3];exact ((hN9.set_ 0 _).set_ 1 _).set_ 2 _
   have far3:∀ {e:TypeId} {s n' c':Nat} {X:Option Addr} {xs:List Value},Own W w1.heap.size e s X n' c' xs→Qaa X≠some g→Own w3 w1.heap.size e s X n' c' xs:=fun h hne=>by
    rw [hw3];exact ((h.far (Qab _ g 0 _) (.inr hne)).far (Qab _ g 1 _) (.inr hne)).far (Qab _ g 2 _) (.inr hne)
   have hV3:=far3 hS.v hgV;have hA3:=far3 hS.a hgA;have HDJ:=Zh hS.dj;clear hw3 far3 hS hN9 k0 k1 k2 f0 f1 f2 hbW;have hJ3:=hJ.below hb3 hJ.lt;have hR3:=hR.below hb3 hR.lt;have hB3:=Zb hb1 hb3;have hgl:=hN3.lt;have hzw:w.heap.size+2≤w3.heap.size:=by have:=hb3.size;omega
   have HVL:=Zh (fun b hb=>(hV3.lt b hb).2);have HAL:=Zh (fun b hb=>(hA3.lt b hb).2);have hgw:w.heap.size+2≤g:=by omega
   clear hb3 hJ hR hb1 HSX HV HA hg9
   go_wp2_with fail
   go_loopw [4] (fun q X=>w3.heap.size≤X.heap.size∧Below w.heap.size w X∧Blk X w.heap.size 26 #[.slice A n c,.slice B m d,.slice C k e]∧Blk X (w.heap.size+1) 26 #[.slice none 0 0,.slice none 0 0,.slice none 0 0]∧Own X w1.heap.size 138 3 V n c1 (Qap N.vs)∧Own X w1.heap.size 73 3 A5 m c2 (Qap N.ar)∧∃ (j:Nat) (C3:Option Addr) (e3:Nat) (xs:List Value),j≤k∧q=.int .i64 j∧Blk X g 26 #[.slice V n c1,.slice A5 m c2,.slice C3 j e3]∧YwD X w3.heap.size C3 j e3 xs (N.ts.take j)) (fun q _=>k-(intOf q).toNat)
   case atStart=>exact ⟨Zn _,hB3,hJ3,hR3,hV3,hA3,0,none,0,[],Nat.zero_le _,rfl,hN3,by simpa using YwD.nil _ _⟩
   case round =>
    clear hB3 hJ3 hR3 hV3 hA3 hN3;obtain ⟨hszr,hbl,hJ,hR,hVo,hAo,j,C3,e3,xs,hj,rfl,hK0,hown⟩:=hrel;obtain ⟨j0,j1,j2⟩:=hJ.three
    by_cases hlt:j<k
    · obtain ⟨sb,so,t,rfl,ht,cx,cy,A',n',c',cz,hr,hc1',hc2'⟩:=(HY.out.below hbl).at_ hlt
      have HNX:=Zh (show N.ts.take (j+1)=N.ts.take j ++[t] by
       rw [Yf (Zs ht).1,(Zs ht).2])
      have hn':n'≤1000000:=by have:=HC.out t (Zm ht);rw [hr.1] at this;exact this
      have HRT:=Zh (show ∀ X,Below wr.heap.size wr X→Rds X 1 A' n' (Qad t.costs) from fun X hX=>(hr.below hX).rdsI)
      have i3:(0:Int)≤(j:Int):=by omega
      have i4:(j:Int)<(k:Int):=by omega
      clear ht hr j0 j1
      go_wp2_with fail
      obtain ⟨gt,hgt⟩:∃ x,x=wr.heap.size:=⟨_,rfl⟩;obtain ⟨Wa,hWa⟩:∃ x,x=wr.alloc (.cells #[.int .i64 t.ins,.int .i64 t.outs,.slice A' n' c'] 75):=⟨_,rfl⟩;rw [←hWa]
      try rw [←hgt]
      skip
      have hgl2:g<wr.heap.size:=by omega
      have hTa:Blk Wa gt 75 #[.int .i64 t.ins,.int .i64 t.outs,.slice A' n' c']:=by rw [hWa,hgt];exact Blk.new _ _ _
      have hba:Below wr.heap.size wr Wa:=by rw [hWa];exact Bel.alloc (Zr _ _)
      clear hWa cx cy cz j2;have hJa:=hJ.below hba hJ.lt;have hRa:=hR.below hba hR.lt;have hVa:=hVo.below hba;have hAa:=hAo.below hba;have hKa:=hK0.below hba hK0.lt;have hYa:=hown.below hba;have hbla:=Zb hbl hba;have hCgt:Qaa C3≠some gt:=fun e=>by have:=(hown.1.lt gt e).2;omega
      have hsza:w3.heap.size≤Wa.heap.size:=by have:=hba.size;omega
      have HRA:=Zh (show ∀ X,Below Wa.heap.size Wa X→Rds X 1 A' n' (Qad t.costs) from fun X hX=>HRT.out X (Zb hba hX))
      have hgtg:gt≠g:=by omega
      clear hJ hR hVo hAo hK0 hown hbl HRT hszr hgt;have hKc:=hKa.three.2.2;have HSX:=Zh (show ∀ X,Blk X gt 75 #[.int .i64 t.ins,.int .i64 t.outs,.slice A' n' c']→X.cell? ⟨gt,0,none⟩=some (.int .i64 t.ins)∧X.cell? ⟨gt,1,none⟩=some (.int .i64 t.outs)∧X.cell? ⟨gt,2,none⟩=some (.slice A' n' c') from fun X hX=>hX.three)
      refine wp_region_held_drew (S:=fun X=>Blk X gt 75 #[.int .i64 t.ins,.int .i64 t.outs,.slice A' n' c']) (by kernel_rfl) hTa.drew (fun _=>?_);refine tz 0 27 ?_;refine tz 2 29 ?_;refine tz 3 30 ?_;refine tz 4 31 ?_;refine tz 5 32 ?_;refine tz 7 34 ?_;refine tz 8 35 ?_;have u0:=CyS.start Wa;obtain ⟨U0,q⟩:∃ X,X=Wa.drew:=⟨_,rfl⟩;rw [←q] at u0 ⊢;clear q;refine Qrk (G:=CyG Wa C3 j e3 n' t) (L:=#[true,true,true,true,true,true,true,true,true,true,true,true,false,false,false]) (f0:=3) (some 28) (some 33) (some 36) (some 37) (some 38) rfl (fun C0 hC=>?_) ?_
      · skip
        have u:=u0;clear u0;obtain ⟨U,rfl⟩:∃ X,X=U0:=⟨_,rfl⟩
        repeat' (first
         | exact ⟨by kernel_rfl,hC.out _ (.slice (some ⟨g6,0,none⟩) 0 0) _ _ _ _ (CyG.of u)⟩
         | exact Qdv.nil
         | refine Qdv.cons (o:=_) rfl (fun K hK=>?_) ?_
         | refine Qan (rs:=[1,6]) (by decide +kernel) (by simp) ?_
         | refine Qan (rs:=[6]) (by decide +kernel) (by simp) ?_
         | refine Qan (rs:=[1,9]) (by decide +kernel) (by simp) ?_
         | refine Qan (rs:=[9]) (by decide +kernel) (by simp) ?_
         | refine Qan (rs:=[1,10]) (by decide +kernel) (by simp) ?_
         | refine Qan (rs:=[10]) (by decide +kernel) (by simp) ?_
         | refine Qan (rs:=[1,11]) (by decide +kernel) (by simp) ?_
         | refine Qan (rs:=[11]) (by decide +kernel) (by simp) ?_
         | refine Qan (rs:=[1]) (by decide +kernel) (by simp) ?_
         | (with_reducible refine Qar (some 36) rfl rfl (.tmp 33) (.tmp 35) 30 rfl 2 _ 1 8 Qir underlying30 rfl (by omega) rfl rfl u.r (HRA.out U u.bel) (Qam _) (by omega) (by omega) u.bel.size ?_;intro R2 rc U ho hg hat;rw [Yz,List.nil_append] at ho;have h':=u.growR ho hg;refine hK.out _ _ (hTa.below h'.bel hTa.lt) (fun _=>?_);clear hK K ho hg hat u;have u:=h';clear h';simp only [Act.put,Yi,Yj,Yk,Yz])
         | (have kk:=Zc u.bel (Zn _) hKc;go_simp;clear kk;first
          | (refine hK.out _ _ (hTa.below (u.newR).bel hTa.lt) (fun _=>?_);have h':=u.newR;obtain ⟨g6,q2⟩:∃ g,g=U.heap.size:=⟨_,rfl⟩;obtain ⟨U,q⟩:∃ X,X=U.alloc (.cells #[] 2):=⟨_,rfl⟩;rw [←q] at h' ⊢;(try rw [←q2] at h' ⊢);clear hK K q q2 u;have u:=h';clear h';try simp only [Act.put,Yi,Yj,Yk])
          | (refine hK.out _ _ (hTa.below (u.newT (.int .i64 t.ins) (.int .i64 t.outs) (.slice R2 n' rc)).bel hTa.lt) (fun _=>?_);have h':=u.newT (.int .i64 t.ins) (.int .i64 t.outs) (.slice R2 n' rc);obtain ⟨g11,q2⟩:∃ g,g=U.heap.size:=⟨_,rfl⟩;obtain ⟨U,q⟩:∃ X,X=U.alloc (.cells #[.int .i64 t.ins,.int .i64 t.outs,.slice R2 n' rc] 75):=⟨_,rfl⟩;rw [←q] at h' ⊢;(try rw [←q2] at h' ⊢);clear hK K q q2 u;have u:=h';clear h';try simp only [Act.put,Yi,Yj,Yk])
          | (refine hK.out _ _ (hTa.below u.bel hTa.lt) (fun _=>?_);clear hK K;try simp only [Act.put,Yi,Yj,Yk])
          | fail))
      · rintro v28 v33 v36 v37 v38 W9 ⟨A2,c2',g11,rfl,rfl,rfl,rfl,hS9⟩
        simp only [Act.put,Yi,Yj,Yk];have hb9:=hS9.bel;have hyW:=hYa.below hb9;have hVW:=hVa.below hb9;have hAW:=hAa.below hb9;have hJW:=hJa.below hb9 hJa.lt;have hRW:=hRa.below hb9 hRa.lt;have hKW:=hKa.below hb9 hKa.lt;have hTW:=hTa.below hb9 hTa.lt;have hblW:=Zb hbla hb9
        have hrdW:Rds W9 3 (some ⟨g11,0,none⟩) 1 [.int .i64 t.ins,.int .i64 t.outs,.slice A2 n' c2']:=by
         rcases hS9.t1 with h|h
         · cases h
         · exact h
        have HRO:=Zh hS9.r
        have HLT9:=Zh (show ∀ (j:Nat) (A2:Option Addr) (n2 c2:Nat),xs[j*3+2]?=some (.slice A2 n2 c2)→∀ b,Qaa A2=some b→b<Wa.heap.size from fun j' A3 n3 c3 hx b hb=>by
         obtain ⟨_,_,h1,_⟩:=hYa.slot hx;exact (h1.lt b hb).2)
        have hcW:=hS9.r.rds.rdI;have hcapW:=hS9.r.cap;have hcapM:=hS9.r.capMax
        have hclW:∀ b,Qaa A2=some b→w3.heap.size≤b∧b<W9.heap.size∧Qaa C3≠some b:=fun b hb=>by
         have h1:=hS9.r.lt b hb;refine ⟨by omega,h1.2,fun e=>?_⟩;have h2:=(hYa.1.lt b e).2;omega
        have hszW:w3.heap.size≤W9.heap.size:=by have:=hb9.size;omega
        have HYY:=Zh hyW;have hownY:=hyW.1
        have HONE:=Zh (show ∀ u∈[Value.int .i64 t.ins,.int .i64 t.outs,.slice A2 n' c2'],u.oneCell'=true from fun u hu=>by
         simp at hu
         rcases hu with rfl|rfl|rfl <;> rfl)
        clear hyW hS9 hb9 hYa hVa hAa hJa hRa hKa hTa hbla;refine Zk 12 (fun K hK=>?_);with_reducible refine Qar (some 39) rfl rfl (.tmp 28) (.tmp 38) 24 rfl 75 _ 3 40 infoRT underlying24 rfl (by omega) rfl rfl hownY hrdW HONE.out (by omega) (by omega) hszW ?_
        intro Y' c' w' hown' hg hat;have hb6:Below w.heap.size w w':=Zo hblW hg (hownY.mono (by omega)) (by omega);have hJ':=hJW.grown hg (hownY.ne (by omega));have hR':=hRW.grown hg (hownY.ne (by omega));have hK':=hKW.grown hg (hownY.ne (by omega));have hT':=hTW.grown hg hCgt;have hV':=hVW.far hg (Own.apart HVL.out hownY);have hA':=hAW.far hg (Own.apart HAL.out hownY);have hsz':w3.heap.size≤w'.heap.size:=Yx hszW hg.size;have HYN:=Zh (HYY.out.push hsza hown' hg hat HRO.out (fun b hb=>(hclW b hb).2.2) HLT9.out);clear hownY hrdW hblW hJW hRW hKW hTW hg hVW hAW hclW hcW hown' hat HYY hcapW hcapM hCgt;refine hK.out _ _ hT' (fun _=>?_);clear hK K;simp only [Act.put,Yi,Yj,Yk];refine tz 13 40 ?_;obtain ⟨k3a,k3b,k3c⟩:=hK'.three;have kf':=hK'.frozen 2;refine Zk 14 (fun K hK=>?_);go_simp;refine hK.out _ _ (hT'.far hgtg _) (fun _=>?_);clear hK K;refine Zd ?_;have HK2:=Zh (hK'.set_ 2 (.slice Y' (j+1) c'));have HV2:=Zh (hV'.far (Qab w' g 2 (.slice Y' (j+1) c')) (.inr hgV));have HA2:=Zh (hA'.far (Qab w' g 2 (.slice Y' (j+1) c')) (.inr hgA));have HY2:=Zh (HYN.out.far (Qab w' g 2 (.slice Y' (j+1) c')) (by omega));have hb7:Below w.heap.size w (w'.setCell ⟨g,2,none⟩ (.slice Y' (j+1) c')):=hb6.setCell (by simp only;omega) _;have hJ7:Blk (w'.setCell ⟨g,2,none⟩ (.slice Y' (j+1) c')) w.heap.size 26 #[.slice A n c,.slice B m d,.slice (some ⟨sb,so,none⟩) k e]:=hJ'.far (by simp only;omega) _;have hR7:=hR'.far (p:=⟨g,2,none⟩) (by simp only;omega) (.slice Y' (j+1) c');clear hV' hA' hK' k3a k3b k3c kf' hT' hJ' hR' hb6
        go_wp2_with fail
        go_roundw
        case rel=>exact ⟨(by simp [World.setCell];omega),hb7,hJ7,hR7,HV2.out,HA2.out,j+1,Y',c',_,by omega,by go_num,HK2.out,by rw [HNX.out];exact HY2.out⟩
        case measure=>simp [intOf];omega
    · obtain rfl:k=j:=by omega
      rw [Ye (by rw [HY.out.1];exact Zn _)] at hown;obtain ⟨q0,q1,q2⟩:=hK0.three;have f0:=hR.frozen 0;have f1:=hR.frozen 1;have f2:=hR.frozen 2;obtain ⟨r0,r1,r2⟩:=hR.three;have hz1':w.heap.size+2≤w1.heap.size:=by omega
      have HV5:=Zh ((((hVo.far (Qab wr (w.heap.size+1) 0 (.slice V n c1)) (.inr (hVo.ne (by omega)))).far (Qab _ (w.heap.size+1) 1 (.slice A5 m c2)) (.inr (hVo.ne (by omega)))).far (Qab _ (w.heap.size+1) 2 (.slice C3 k e3)) (.inr (hVo.ne (by omega)))).mono (show w.heap.size≤w1.heap.size by omega))
      have HA5:=Zh ((((hAo.far (Qab wr (w.heap.size+1) 0 (.slice V n c1)) (.inr (hAo.ne (by omega)))).far (Qab _ (w.heap.size+1) 1 (.slice A5 m c2)) (.inr (hAo.ne (by omega)))).far (Qab _ (w.heap.size+1) 2 (.slice C3 k e3)) (.inr (hAo.ne (by omega)))).mono (show w.heap.size≤w1.heap.size by omega))
      have HY5:=Zh (((hown.far (Qab wr (w.heap.size+1) 0 (.slice V n c1)) (by omega)).far (Qab _ (w.heap.size+1) 1 (.slice A5 m c2)) (by omega)).far (Qab _ (w.heap.size+1) 2 (.slice C3 k e3)) (by omega));have hb5:Below w.heap.size w (((wr.setCell ⟨w.heap.size+1,0,none⟩ (.slice V n c1)).setCell ⟨w.heap.size+1,1,none⟩ (.slice A5 m c2)).setCell ⟨w.heap.size+1,2,none⟩ (.slice C3 k e3)):=((hbl.setCell (by simp only;omega) _).setCell (by simp only;omega) _).setCell (by simp only;omega) _;clear hVo hAo hown j0 j1 hR hbl
      go_wp2_with fail
      refine bodyPost_ret (v:=.agg #[.slice V n c1,.slice A5 m c2,.slice C3 k e3]) (by simp [results,results58,go_sem,r0,r1,r2]) rfl ?_;exact ⟨V,A5,C3,c1,c2,e3,w3.heap.size,xs,rfl,by omega,HV5.out,HA5.out,HY5.out,HDJ.out,HVL.out,HAL.out,hb5⟩
theorem Qkv {x y z:Int}(u:Int):∀ {l:List Tri} {a:Nat},l[a]?=some (x,y,z)→(Qap l).set (a*3+2) (.int .i64 u)=Qap (l.set a (x,y,u))
 | [],a,h=>by simp at h
 | p::t,0,h=>by simp at h;subst h;simp [Qap]
 | p::t,a+1,h=>by
  have:=Qkv u (l:=t) (a:=a) (by simpa using h);rw [show (a+1)*3+2=(a*3+2)+1+1+1 by omega]
  simp [Qap,this]
structure ApS (w0 W:World) (B g K:Nat) (V A C:Option Addr) (n m k c1 c2 c3:Nat) (xs:List Value) (N:Qai):Prop where
 bel:Below w0.heap.size w0 W
 hB:w0.heap.size+2≤B
 hK:B≤K
 gB:B≤g
 bl:Blk W g 26 #[.slice V n c1,.slice A m c2,.slice C k c3]
 rs:Blk W (w0.heap.size+1) 26 #[.slice none 0 0,.slice none 0 0,.slice none 0 0]
 v:Own W B 138 3 V n c1 (Qap N.vs)
 a:Own W B 73 3 A m c2 (Qap N.ar)
 y:YwD W K C k c3 xs N.ts
 dj:∀ b,Qaa V=some b→Qaa A≠some b
 vK:∀ b,Qaa V=some b→b<K
 aK:∀ b,Qaa A=some b→b<K
 vg:Qaa V≠some g
 ag:Qaa A≠some g
 cg:Qaa C≠some g
 yg:∀ (j:Nat) (A2:Option Addr) (n2 c2:Nat),xs[j*3+2]?=some (.slice A2 n2 c2)→Qaa A2≠some g
section
variable {w0 W W':World} {B g K n m k c1 c2 c3:Nat} {V A C:Option Addr} {xs:List Value} {N:Qai}
theorem ApS.below (h:ApS w0 W B g K V A C n m k c1 c2 c3 xs N)(hb:Below W.heap.size W W'):ApS w0 W' B g K V A C n m k c1 c2 c3 xs N :=
 ⟨Zb h.bel (hb.mono (by have:=h.bel.size;omega)),h.hB,h.hK,h.gB,h.bl.below hb h.bl.lt,h.rs.below hb h.rs.lt,h.v.below hb,h.a.below hb,h.y.below hb,h.dj,h.vK,h.aK,h.vg,h.ag,h.cg,h.yg⟩
theorem ApS.alloc (h:ApS w0 W B g K V A C n m k c1 c2 c3 xs N)(o:Obj):ApS w0 (W.alloc o) B g K V A C n m k c1 c2 c3 xs N:=h.below ((Zr _ _).alloc (Zn _) o)
theorem ApS.start {w1 w2:World}{K:Nat}(hw:Below w0.heap.size w0 w1)(hz:w1.heap.size=w0.heap.size+2) (hr:Blk w1 (w0.heap.size+1) 26 #[.slice none 0 0,.slice none 0 0,.slice none 0 0])
 (hK:w1.heap.size≤K) (hv:Own w2 w1.heap.size 138 3 V n c1 (Qap N.vs)) (ha:Own w2 w1.heap.size 73 3 A m c2 (Qap N.ar)) (hy:YwD w2 K C k c3 xs N.ts)
 (hd:∀ b,Qaa V=some b→Qaa A≠some b) (hvK:∀ b,Qaa V=some b→b<K) (haK:∀ b,Qaa A=some b→b<K) (hb:Below w1.heap.size w1 w2) :
 ApS w0 (w2.alloc (.cells #[.slice V n c1,.slice A m c2,.slice C k c3] 26)) w1.heap.size w2.heap.size K V A C n m k c1 c2 c3 xs N where
 bel:=(Zb hw hb).alloc (by have:=hb.size;omega) _
 hB:=by omega
 hK:=hK
 gB:=hb.size
 bl:=Blk.new _ _ _
 rs:=(hr.below hb hr.lt).alloc _
 v:=hv.alloc _
 a:=ha.alloc _
 y:=hy.below ((Zr _ _).alloc (Zn _) _)
 dj:=hd
 vK:=hvK
 aK:=haK
 vg:=fun e=>by have:=(hv.lt _ e).2;omega
 ag:=fun e=>by have:=(ha.lt _ e).2;omega
 cg:=fun e=>by have:=(hy.1.lt _ e).2;omega
 yg:=fun j A2 n2 c2 hx e=>by
  obtain ⟨_,_,h1,_⟩:=hy.slot hx;have:=(h1.lt _ e).2;omega
theorem ApS.setA {gb a:Nat}{x y z:Int} (h:ApS w0 W B g K V (some ⟨gb,0,none⟩) C n m k c1 c2 c3 xs N) (ha:N.ar[a]?=some (x,y,z)) (u:Int) :
 ApS w0 (W.setCell ⟨gb,a*3+2,none⟩ (.int .i64 u)) B g K V (some ⟨gb,0,none⟩) C n m k c1 c2 c3 xs (N.setW a x y u):=by
 have hB:=h.hB;have h1:=(h.a.lt gb rfl);have h2:gb<K:=h.aK gb rfl
 have hA1:=h.a.setAt (k:=a*3+2) (.int .i64 u);rw [Yz,Qkv u ha] at hA1;have hg:=Qab W gb (a*3+2) (.int .i64 u);exact ⟨h.bel.setCell (by simp only;omega) _,h.hB,h.hK,h.gB,h.bl.grown hg h.ag,h.rs.grown hg (fun e=>by injection e with e;omega),h.v.far hg (.inr (fun e=>h.dj gb e rfl)),hA1,h.y.far hg h2,h.dj,h.vK,h.aK,h.vg,h.ag,h.cg,h.yg⟩
theorem ApS.setT {gb p i n2 d2:Nat}{t:Qby}(h:ApS w0 W B g K V A C n m k c1 c2 c3 xs N) (ht:N.ts[p]?=some t) (hx:xs[p*3+2]?=some (.slice (some ⟨gb,0,none⟩) n2 d2)) (u:Int) :
 ApS w0 (W.setCell ⟨gb,i,none⟩ (.int .i64 u)) B g K V A C n m k c1 c2 c3 xs (N.bend p (t.turn i u)):=by
 have hB:=h.hB;have hK:=h.hK;obtain ⟨t',ht',ho,hne⟩:=h.y.slot hx;rw [ht] at ht'
 cases ht'
 have h1:=ho.lt gb rfl;have hg:=Qab W gb i (.int .i64 u);have hpl:=(Zs ht).1;have hC:Qaa C≠some gb:=hne gb rfl;refine ⟨h.bel.setCell (by simp only;omega) _,h.hB,h.hK,h.gB,h.bl.grown hg (h.yg p _ _ _ hx),h.rs.grown hg (fun e=>by injection e with e;omega),h.v.far hg (.inr (fun e=>by have:=h.vK gb e;omega)),h.a.far hg (.inr (fun e=>by have:=h.aK gb e;omega)),?_,h.dj,h.vK,h.aK,h.vg,h.ag,h.cg,h.yg⟩;refine ⟨h.y.1.far hg (.inr hC),?_,fun j t2 hl=>?_,h.y.2.2.2⟩
 · show (N.ts.set p _).length=k
   rw [Yq];exact h.y.2.1
 · change (N.ts.set p (t.turn i u))[j]?=some t2 at hl
   by_cases e:p=j
   · subst e
     rw [Yg hpl] at hl
     cases hl
     obtain ⟨A2,n3,c4,p1,p2,p3,k2,k3⟩:=h.y.2.2.1 p t ht;rw [hx] at p3
     cases p3
     have ho2:=k2.setAt (k:=i) (.int .i64 u);rw [Yz,Qjd] at ho2;exact ⟨_,_,_,p1,p2,hx,ho2,k3⟩
   · rw [Yh e] at hl
     obtain ⟨A2,n3,c4,p1,p2,p3,k2,k3⟩:=h.y.2.2.1 j t2 hl;refine ⟨A2,n3,c4,p1,p2,p3,k2.far hg (.inr (fun e2=>?_)),k3⟩
     rcases Nat.lt_or_gt_of_ne e with hlt|hlt
     · exact h.y.2.2.2 p j _ _ _ _ _ _ hlt hx p3 gb rfl e2
     · exact h.y.2.2.2 j p _ _ _ _ _ _ hlt p3 hx gb e2 rfl
theorem ApS.rd (h:ApS w0 W B g K V A C n m k c1 c2 c3 xs N):Qbc W V A C n m k N:=⟨h.v.rds.rd3,h.a.rds.rd3,h.y.rdY⟩
end
theorem YwD.rdYm {W:World}{B n c:Nat}{A:Option Addr}{xs:List Value}{ls:List Qby}(h:YwD W B A n c xs ls){G:Nat→Prop}(hG:∀ b,B≤b→G b):RdY (msk W G) A n ls :=
 ⟨h.2.1,fun i t ht=>by
  obtain ⟨A2,n2,c2,h1,h2,h3,h4,_⟩:=h.2.2.1 i t ht;obtain ⟨b,o,e,k1⟩:=h.1.rds.2 _ _ h1;obtain ⟨b',o',e',k2⟩:=h.1.rds.2 _ _ h2;rw [e] at e';cases e'
  obtain ⟨b',o',e',k3⟩:=h.1.rds.2 _ _ h3;rw [e] at e';cases e'
  have hb:G b:=hG b (h.1.lt b (by rw [e];rfl)).1;exact ⟨b,o,e,Qao.2 ⟨hb,k1⟩,Qao.2 ⟨hb,by rw [Nat.add_assoc];exact k2⟩,A2,n2,c2,Qao.2 ⟨hb,by rw [Nat.add_assoc];exact k3⟩,RdK.msk h4.rds.rdI (fun b hb=>hG b (h4.lt b hb).1),h4.cap,h4.capMax⟩⟩
theorem ApS.res3 {w0 W:World}{B g K n m k c1 c2 c3:Nat}{V A C:Option Addr}{xs:List Value}{N:Qai}(h:ApS w0 W B g K V A C n m k c1 c2 c3 xs N)(x y z:Value) :
 Qbc (msk (((W.setCell ⟨w0.heap.size+1,0,none⟩ x).setCell ⟨w0.heap.size+1,1,none⟩ y).setCell ⟨w0.heap.size+1,2,none⟩ z) (fun b=>w0.heap.size≤b)) V A C n m k N∧Below w0.heap.size w0 (((W.setCell ⟨w0.heap.size+1,0,none⟩ x).setCell ⟨w0.heap.size+1,1,none⟩ y).setCell ⟨w0.heap.size+1,2,none⟩ z):=by
 have h1:=h.hB;have h2:=h.hK;have g1:=Qab W (w0.heap.size+1) 0 x;have g2:=Qab (W.setCell ⟨w0.heap.size+1,0,none⟩ x) (w0.heap.size+1) 1 y;have g3:=Qab ((W.setCell ⟨w0.heap.size+1,0,none⟩ x).setCell ⟨w0.heap.size+1,1,none⟩ y) (w0.heap.size+1) 2 z;have hv:=((h.v.far g1 (.inr (h.v.ne (by omega)))).far g2 (.inr (h.v.ne (by omega)))).far g3 (.inr (h.v.ne (by omega)));have ha:=((h.a.far g1 (.inr (h.a.ne (by omega)))).far g2 (.inr (h.a.ne (by omega)))).far g3 (.inr (h.a.ne (by omega)));have hy:=((h.y.far g1 (by omega)).far g2 (by omega)).far g3 (by omega);refine ⟨⟨hv.rds.rd3.msk (fun b hb=>by have:=(h.v.lt b hb).1;show w0.heap.size≤b;omega),ha.rds.rd3.msk (fun b hb=>by have:=(h.a.lt b hb).1;show w0.heap.size≤b;omega),hy.rdYm (fun b hb=>by show w0.heap.size≤b;omega)⟩,?_⟩
 exact ((h.bel.setCell (by simp only;omega) _).setCell (by simp only;omega) _).setCell (by simp only;omega) _
def AppQ (w:World)(n m k:Nat)(N:Qai)(r:Ending)(w':World):Prop :=
 ∃ V A C c1 c2 c3,r=.returned (.agg #[.slice V n c1,.slice A m c2,.slice C k c3])∧Qbc (msk w' (fun b=>w.heap.size≤b)) V A C n m k N∧Below w.heap.size w w'
end Go.Proofs.YthoagdpakddbdaaGreatDoor
