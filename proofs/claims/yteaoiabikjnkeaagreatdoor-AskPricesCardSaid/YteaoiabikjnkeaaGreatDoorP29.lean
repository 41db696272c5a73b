/- Parts of the proof: RoL, Apr, Open, OpN. -/
import Derived.Test.YteaoiabikjnkeaaGreatDoorP1
import Derived.Test.YteaoiabikjnkeaaGreatDoorP7
import Derived.Test.YteaoiabikjnkeaaGreatDoorP18
import Derived.Test.YteaoiabikjnkeaaGreatDoorP27
import Derived.Test.YteaoiabikjnkeaaGreatDoorP28
import Derived.Test.YteaoiabikjnkeaaGreatDoorRows
import Derived.ProofKit
import Derived.OpenShut
import Derived.Deep.Slices
import Derived.SizedLaws
import Derived.ChangeArms
namespace Go.Proofs.YteaoiabikjnkeaaGreatDoor
open Go.RowKit Go.Proofs.Tryz
attribute [local go_sem ↓] Go.wp_at_zero Go.wp_at_succ
set_option maxHeartbeats 2000000 in
theorem Qva (A B C NX TX Q G:Option Addr)(n m k c d e cx ct L cq cg i q a b s t:Nat)(xA xB xC xE:Value)(N:Qao) (ls:List (List Int)) (l:List Int) (x:Qan) (w:World) (h:Qby w A B C n m k N) (hok:Qat N) (hnx:RdT w NX m (Qkq N)) (htx:RdT w TX m (Qjn N)) (hq:RdT w Q L ls) (hP:Qay N.vs.length ls) (hG:RdG w G L (Qae N.ar ls))
 (hl:ls[i]?=some l) (hx:(Qaf N.ar l)[q]?=some x) (ha:x.1[a]?=some (s:Int)) (hb:x.2[b]?=some (t:Int)) :
 Calls prog 81 #[.agg #[.slice A n c,.slice B m d,.slice C k e,.slice NX m cx,.slice TX m ct],.agg #[xA,xB,xC,.slice Q L cq,.slice G L cg,xE],.agg #[.int .i64 ((i:Int)+1),.int .i64 q,.int .i64 a,.int .i64 b]] w fun r w'=>(∃ v,r=.returned (.int .i64 v)∧Qfu N (Qcy l q) s t v)∧Below w.heap.size w w':=by
 have hL6:L≤6:=by rw [←hq.1];exact hP.l6
 have hLL:=hq.1;have hiL:i<L:=by rw [←hLL];exact (Zs hl).1
 have hlv:=hok.lv;have hla:=hok.la;have hlm:N.ar.length=m:=h.2.1.1;have hln:N.vs.length=n:=h.1.1
 have hqM:q≤4096:=by
  have h1:=hP.lvl l (Zm hl);have h2:=Qcc (l:=l) (n:=(N.vs.length:Int)) (fun x hx=>h1.hi x hx) (by omega);have h3:=(Zs hx).1;rw [Qar] at h3;omega
 have hgx:=Qbl hx;obtain ⟨l0,hl0⟩:∃ l,ls[0]?=some l:=⟨_,Zg (by omega)⟩;have hlen:=(hP.lvl l (Zm hl)).len;have hlen0:=(hP.lvl l0 (Zm hl0)).len
 have hs:s<m:=by
  obtain ⟨y,hy,_⟩:=(Qcw hx).1 (Zm ha);rw [←hlm];exact (Zs hy).1
 have ht:t<m:=by
  obtain ⟨y,hy,_⟩:=(Qbx hx).1 (Zm hb);rw [←hlm];exact (Zs hy).1
 have hab:a<x.1.length:=(Zs ha).1
 have hbb:b<x.2.length:=(Zs hb).1
 have HGT:=Zh (fun V (hV:Below w.heap.size w V)=>Qip xA xB xC (.slice Q L cq) xE G L cg i q N.ar ls l x V (hG.le (Le.below hV)) hl hx (by omega) (by omega));have HMK:=Zh (fun V (hV:Below w.heap.size w V)=>Qqh Q L cq i n (q:Int) ls l l0 V (hq.below hV) hl (by omega) hl0 (by rw [hlen,hln]) (by rw [hlen0,hln]) (by omega));have HIS:=Zh (fun V (hV:Below w.heap.size w V) (MA:Option Addr) (hm:RdB V MA n (Qcy l (q:Int)))=>Qpm A B C NX TX n m k c d e cx ct s t N MA n (Qcy l (q:Int)) V (h.below hV) hok (hnx.below hV) (htx.below hV) hm hs ht);have HA:=Zh ha;have HB:=Zh hb;have HLN:=Zh (show (Qcy l (q:Int)).length=n by rw [Qhk,hlen,hln])
 have i1:(0:Int)≤(a:Int):=by omega
 have i2:(0:Int)≤(b:Int):=by omega
 clear h hok hnx htx hq hP hG hl hx ha hb hl0 hlen hlen0 hLL hlm hln
 go_enter func81,ntmps81
 go_wp2_with fail
 (refine Qad ?_;intro w1 hw1)
 have hb1:Below w.heap.size w w1:=by rw [hw1];exact Qah
 have hR1:Blk w1 w.heap.size 53 #[.slice A n c,.slice B m d,.slice C k e,.slice NX m cx,.slice TX m ct]:=by
  rw [hw1]
  repeat (first|(refine Blk.new' _ _ _ ?_ <;> simp <;> done)|apply Blk.alloc)
 have hO1:Blk w1 (w.heap.size+1) 40 #[xA,xB,xC,.slice Q L cq,.slice G L cg,xE]:=by
  rw [hw1]
  repeat (first|(refine Blk.new' _ _ _ ?_ <;> simp <;> done)|apply Blk.alloc)
 have hE1:Blk w1 (w.heap.size+1+1) 112 #[.int .i64 ((i:Int)+1),.int .i64 q,.int .i64 a,.int .i64 b]:=by
  rw [hw1]
  repeat (first|(refine Blk.new' _ _ _ ?_ <;> simp <;> done)|apply Blk.alloc)
 clear hw1;with_reducible refine (HGT.out w1 hb1).mono ?_
 rintro r w2 ⟨A1,n1,c1,A2,n2,c2,rfl,h1,h2,hb2⟩;have hbw2:=Zb hb1 hb2;have hR2:=hR1.below hb2 hR1.lt;have hO2:=hO1.below hb2 hO1.lt;have hE2:=hE1.below hb2 hE1.lt;have H1:=Zh h1;have H2:=Zh h2;have hn1:=h1.1;have hn2:=h2.1;clear h1 h2 hb1 hb2 hR1 hO1 hE1 HGT
 go_wp2_with fail
 (refine Qai ?_;intro w3 hw3)
 have hb3:Below w2.heap.size w2 w3:=by rw [hw3];exact Qah
 have hX3:Blk w3 w2.heap.size 109 #[.slice A1 n1 c1,.slice A2 n2 c2]:=by rw [hw3];exact Blk.new _ _ _
 clear hw3;obtain ⟨ab,ao,z1,rfl,hz1,cz1⟩:=(H1.out.below hb3).at_ (i:=a) (by omega);rw [HA.out] at hz1
 cases hz1
 obtain ⟨bb,bo,z2,rfl,hz2,cz2⟩:=(H2.out.below hb3).at_ (i:=b) (by omega);rw [HB.out] at hz2
 cases hz2
 have hR3:=hR2.below hb3 hR2.lt;have hO3:=hO2.below hb3 hO2.lt;have hE3:=hE2.below hb3 hE2.lt;have hbw3:=Zb hbw2 hb3;have i3:(a:Int)<(n1:Int):=by omega
 have i4:(b:Int)<(n2:Int):=by omega
 have HSX:=Zh (show ∀ V,Below w3.heap.size w3 V→V.cell? ⟨w.heap.size,0,none⟩=some (.slice A n c)∧V.cell? ⟨w.heap.size,1,none⟩=some (.slice B m d)∧V.cell? ⟨w.heap.size,2,none⟩=some (.slice C k e)∧V.cell? ⟨w.heap.size,3,none⟩=some (.slice NX m cx)∧V.cell? ⟨w.heap.size,4,none⟩=some (.slice TX m ct) ∧
  V.cell? ⟨w.heap.size+1,3,none⟩=some (.slice Q L cq)∧V.cell? ⟨w.heap.size+1+1,0,none⟩=some (.int .i64 ((i:Int)+1))∧V.cell? ⟨w.heap.size+1+1,1,none⟩=some (.int .i64 q)∧V.cell? ⟨w.heap.size+1+1,2,none⟩=some (.int .i64 a)∧V.cell? ⟨w.heap.size+1+1,3,none⟩=some (.int .i64 b) ∧
  V.cell? ⟨w2.heap.size,0,none⟩=some (.slice (some ⟨ab,ao,none⟩) n1 c1)∧V.cell? ⟨w2.heap.size,1,none⟩=some (.slice (some ⟨bb,bo,none⟩) n2 c2)∧V.cell? ⟨ab,ao+a,none⟩=some (.int .i64 s)∧V.cell? ⟨bb,bo+b,none⟩=some (.int .i64 t) from
  fun V hV=>⟨by rw [(hR3.below hV hR3.lt).cell];rfl,by rw [(hR3.below hV hR3.lt).cell];rfl,by rw [(hR3.below hV hR3.lt).cell];rfl,by rw [(hR3.below hV hR3.lt).cell];rfl,by rw [(hR3.below hV hR3.lt).cell];rfl,by rw [(hO3.below hV hO3.lt).cell];rfl,by rw [(hE3.below hV hE3.lt).cell];rfl,by rw [(hE3.below hV hE3.lt).cell];rfl,by rw [(hE3.below hV hE3.lt).cell];rfl,by rw [(hE3.below hV hE3.lt).cell];rfl,
   by rw [(hX3.below hV hX3.lt).cell];rfl,by rw [(hX3.below hV hX3.lt).cell];rfl,Zc hV (Zn _) cz1,Zc hV (Zn _) cz2⟩)
 clear hR2 hO2 hE2 hR3 hO3 hE3 hX3 cz1 cz2 hbw2 hb3;refine wp_region_held_drew (S:=fun V=>Below w3.heap.size w3 V) (by kernel_rfl) (Zr _ _).drew (fun _=>?_);refine tz 0 14 ?_;refine tz 1 15 ?_;refine tz 2 16 ?_;refine tz 3 17 ?_;refine tz 4 18 ?_;refine tz 5 19 ?_;refine tz 6 20 ?_;refine tz 7 21 ?_;refine tz 8 22 ?_;refine tz 9 23 ?_;refine tz 10 24 ?_;refine tz 11 25 ?_;refine tz 12 26 ?_;refine tz 13 27 ?_;refine tz 14 28 ?_;refine tz 15 29 ?_;refine tz 16 30 ?_;refine tz 17 31 ?_;refine tz 18 32 ?_;refine Zk 19 (fun K hK=>?_);go_simp;with_reducible refine (HMK.out _ (hbw3.trans ((Zr _ _).drew.mono hbw3.size))).mono ?_
 rintro r w4 ⟨bm,rfl,hbm,_,hb4⟩;have hb4':Below w3.heap.size w3 w4:=(Zr _ _).drew.trans hb4;go_simp;refine hK.out _ _ hb4' (fun _=>?_);clear hK K;refine Zk 20 (fun K hK=>?_);go_simp;with_reducible refine (HIS.out w4 (Zb hbw3 hb4') _ (hbm.rdB HLN.out)).mono ?_
 rintro r w5 ⟨⟨v,rfl,hv⟩,hb5⟩;have hb5':=Zb hb4' hb5;go_simp;refine hK.out _ _ hb5' (fun _=>?_);clear hK K;refine tz 21 6 ?_;refine Zd ?_;have HV:=Zh hv;have HB5:=Zh (Zb hbw3 hb5');clear hv hb4 hb5 hb4' hb5' hbm HSX
 go_wp2_with fail
 go_ret
 exact ⟨⟨v,rfl,HV.out⟩,HB5.out⟩
set_option maxHeartbeats 2000000 in
theorem Qne (A B C Q G AE:Option Addr)(n m k c d e L cq cg ce:Nat)(EL:List Ent)(xA xB xC:Value)(N:Qao) (ls:List (List Int)) (w:World) (h:Qby w A B C n m k N) (hok:Qat N) (hq:RdT w Q L ls) (hP:Qay N.vs.length ls) (hG:RdG w G L (Qae N.ar ls)) (hE:Rds w 4 AE EL.length (Qee EL)) (hEl:EL.length=Qbw (Qae N.ar ls)) (hEP:EntP N ls EL) (hNC:Qbw (Qae N.ar ls)≤1000000000) :
 Calls prog 28 #[.agg #[.slice A n c,.slice B m d,.slice C k e],.agg #[xA,xB,xC,.slice Q L cq,.slice G L cg,.slice AE EL.length ce]] w fun r w'=>∃ A' c' cl,r=.returned (.slice A' (List.length cl) c')∧RdI w' A' cl.length cl∧Qdd N ls cl∧cl.length≤c'∧Below w.heap.size w w':=by
 obtain ⟨NE,hNE⟩:∃ NE,NE=EL.length:=⟨_,rfl⟩;rw [←hNE] at hE ⊢;have hNE9:NE≤1000000000:=by omega
 have HNE:=Zh (show NE=Qbw (Qae N.ar ls) by rw [hNE];exact hEl)
 have HNL:=Zh hNE;have HOF:=Zh (fun V (hV:Below w.heap.size w V)=>Qtw A B C n m k c d e N V (h.below hV) hok);have HCO:=Zh (fun (NX TX:Option Addr) (cx ct:Nat) (i q a b s t:Nat) (l:List Int) (x:Qan) V (hV:Below w.heap.size w V) (hnx:RdT V NX m (Qkq N)) (htx:RdT V TX m (Qjn N)) hl hx ha hb=>Qva A B C NX TX Q G n m k c d e cx ct L cq cg i q a b s t xA xB xC (.slice AE NE ce) N ls l x V (h.below hV) hok hnx htx (hq.below hV) hP (hG.le (Le.below hV)) hl hx ha hb);have HE:=Zh hE;have HEP:=Zh hEP;have hm:m≤16384:=by rw [←h.2.1.1];exact hok.la
 clear h hok hq hP hG hE hEl hEP hNE
 go_enter func28,ntmps28
 go_wp2_with fail
 (refine Qad ?_;intro w1 hw1)
 have hb1:Below w.heap.size w w1:=by rw [hw1];exact Qah
 have hX1:Blk w1 w.heap.size 26 #[.slice A n c,.slice B m d,.slice C k e]:=by
  rw [hw1]
  repeat (first|(refine Blk.new' _ _ _ ?_ <;> simp <;> done)|apply Blk.alloc)
 have hO1:Blk w1 (w.heap.size+1) 40 #[xA,xB,xC,.slice Q L cq,.slice G L cg,.slice AE NE ce]:=by
  rw [hw1]
  repeat (first|(refine Blk.new' _ _ _ ?_ <;> simp <;> done)|apply Blk.alloc)
 clear hw1;with_reducible refine (HOF.out w1 hb1).mono ?_
 rintro r w2 ⟨NX,cx,TX,ct,rfl,hnx,htx,hb2⟩;have hbw2:=Zb hb1 hb2;have hO2:=hO1.below hb2 hO1.lt;have HNX:=Zh hnx;have HTX:=Zh htx;clear hb1 hb2 hX1 hO1 hnx htx HOF
 go_wp2_with fail
 (refine Qai ?_;intro v1 hv1)
 have hbv:Below w2.heap.size w2 v1:=by rw [hv1];exact Qah
 have hR:Blk v1 w2.heap.size 53 #[.slice A n c,.slice B m d,.slice C k e,.slice NX m cx,.slice TX m ct]:=by rw [hv1];exact Blk.new _ _ _
 clear hv1;have hO:=hO2.below hbv hO2.lt;have hbw:=Zb hbw2 hbv;have HBW:=Zh hbw;have HNX1:=Zh (HNX.out.below hbv);have HTX1:=Zh (HTX.out.below hbv);clear hO2 hbw2 hbv HNX HTX hbw
 go_loopw [6,7] (fun z q V=>∃ (i:Nat) (A':Option Addr) (cp:Nat) (cl:List Int),i≤NE∧q=.int .i64 i∧z=.slice A' i cp∧cl.length=i∧Own V v1.heap.size 2 1 A' i cp (Qag cl)∧RowE N ls cl∧Below v1.heap.size v1 V) (fun _ q _=>NE-(intOf q).toNat)
 case atStart=>exact ⟨0,none,0,[],Nat.zero_le _,rfl,rfl,rfl,Own.nil _ _ _ _,(fun k v hk=>by simp at hk),Zr _ _⟩
 case round =>
  obtain ⟨i,A',cp,cl,hi,rfl,rfl,hcl,hown,hrow,hbl⟩:=hrel;have HCL:=Zh hcl;have HOW:=Zh hown;have HRW:=Zh hrow;have HBL:=Zh hbl;have hOr:=hO.below hbl hO.lt;have x5:wr.cell? ⟨w.heap.size+1,5,none⟩=some (.slice AE NE ce):=Zq hOr;have xl:=hOr.lt;clear hcl hown hrow hOr
  by_cases hlt:i<NE
  rotate_left
  · obtain rfl:i=NE:=by omega
    have j1:¬((i:Int)<(i:Int)):=by omega
    clear hbl
    go_wp2_with fail
    go_ret
    refine ⟨A',cp,cl,by rw [HCL.out];rfl,?_,⟨by rw [HCL.out];exact HNE.out,HRW.out⟩,by rw [HCL.out];exact HOW.out.cap,Zb HBW.out HBL.out⟩;rw [HCL.out];exact HOW.out.rds.rdI
  obtain ⟨⟨il,iq,ia,ib⟩,he⟩:∃ e,EL[i]?=some e:=⟨_,Zg (by rw [←HNL.out];exact hlt)⟩;obtain ⟨l,x,s,t,hent⟩:=HEP.out i _ he;simp only at hent;have hEr:=HE.out.below HBW.out;have hc:=fun (q:Nat) (u:Value) (hq:q<4) (hu:(Qgz (il,iq,ia,ib))[q]?=some u)=>hEr.2 (i*4+q) u (by rw [Qkv EL i _ he q hq];exact hu)
  obtain ⟨eb,eo,rfl,c0⟩:=hc 0 _ (by omega) rfl;obtain ⟨_,_,e1,c1⟩:=hc 1 _ (by omega) rfl
  cases e1
  obtain ⟨_,_,e2,c2⟩:=hc 2 _ (by omega) rfl
  cases e2
  obtain ⟨_,_,e3,c3⟩:=hc 3 _ (by omega) rfl
  cases e3
  rw [←Nat.add_assoc] at c0 c1 c2 c3;rw [Nat.add_zero] at c0;simp only at c0 c1 c2 c3;have j1:(i:Int)<(NE:Int):=by omega
  have j2:(0:Int)≤(i:Int):=by omega
  have HEN:=Zh hent
  have HSX:=Zh (show ∀ V,Below v1.heap.size v1 V→V.cell? ⟨w2.heap.size,0,none⟩=some (.slice A n c)∧V.cell? ⟨w2.heap.size,1,none⟩=some (.slice B m d)∧V.cell? ⟨w2.heap.size,2,none⟩=some (.slice C k e)∧V.cell? ⟨w2.heap.size,3,none⟩=some (.slice NX m cx)∧V.cell? ⟨w2.heap.size,4,none⟩=some (.slice TX m ct) ∧
   V.cell? ⟨w.heap.size+1,0,none⟩=some xA∧V.cell? ⟨w.heap.size+1,1,none⟩=some xB∧V.cell? ⟨w.heap.size+1,2,none⟩=some xC∧V.cell? ⟨w.heap.size+1,3,none⟩=some (.slice Q L cq)∧V.cell? ⟨w.heap.size+1,4,none⟩=some (.slice G L cg)∧V.cell? ⟨w.heap.size+1,5,none⟩=some (.slice (some ⟨eb,eo,none⟩) NE ce) ∧
   V.cell? ⟨eb,eo+i*4,none⟩=some (.int .i64 ((il:Int)+1))∧V.cell? ⟨eb,eo+i*4+1,none⟩=some (.int .i64 iq)∧V.cell? ⟨eb,eo+i*4+2,none⟩=some (.int .i64 ia)∧V.cell? ⟨eb,eo+i*4+3,none⟩=some (.int .i64 ib) from
   fun V hV=>by
    have hR':=hR.below hV hR.lt;have hO':=hO.below hV hO.lt
    exact ⟨Zq hR',Zq hR',Zq hR',Zq hR',Zq hR',Zq hO',Zq hO',Zq hO',Zq hO',Zq hO',Zq hO',
     Zc hV (Zn _) c0,Zc hV (Zn _) c1,Zc hV (Zn _) c2,Zc hV (Zn _) c3⟩)
  clear hent hc he hEr c0 c1 c2 c3
  go_wp2_with fail
  refine wp_region_held_drew (S:=fun V=>Below v1.heap.size v1 V) (by kernel_rfl) HBL.out.drew (fun _=>?_);refine tz 0 17 ?_;refine tz 1 18 ?_;refine tz 2 19 ?_;refine tz 3 20 ?_;refine tz 4 21 ?_;refine tz 5 22 ?_;refine tz 6 23 ?_;refine tz 7 24 ?_;refine Zk 8 (fun K hK=>?_);go_simp;with_reducible refine (HCO.out NX TX cx ct il iq ia ib s t l x _ (Zb HBW.out HBL.out.drew) (HNX1.out.below HBL.out.drew) (HTX1.out.below HBL.out.drew) HEN.out.hl HEN.out.hx HEN.out.ha HEN.out.hb).mono ?_
  rintro r w4 ⟨⟨u,rfl,hu⟩,hb4⟩;have hb4':Below wr.heap.size wr w4:=(Zr _ _).drew.trans hb4;have HU:=Zh (show EntV N ls cl.length u from ⟨il,l,iq,x,ia,ib,s,t,by rw [HCL.out];exact HEN.out,hu⟩)
  have HB4:=Zh (Zb HBL.out hb4');have HO4:=Zh (HOW.out.below hb4');clear hu hb4 hb4';go_simp;refine hK.out _ _ HB4.out (fun _=>?_);clear hK K;refine Zk 9 (fun K hK=>?_);go_simp;refine hK.out _ _ (Zb HB4.out Qah) (fun _=>?_);clear hK K;obtain ⟨W5,hW5⟩:∃ W5,W5=w4.alloc (.cells #[.int .i64 u] 2):=⟨_,rfl⟩;rw [←hW5];have hb5:Below w4.heap.size w4 W5:=by rw [hW5];exact Qah
  have hrd:Rds W5 1 (some ⟨w4.heap.size,0,none⟩) 1 (Qag [u]):=by rw [hW5];exact (Blk.new w4 2 #[.int .i64 u]).rds rfl
  have hown:=HO4.out.below hb5;have HB5:=Zh (Zb HB4.out hb5);have hsz:v1.heap.size≤W5.heap.size:=HB5.out.size;clear hW5 hb5;refine Zk 10 (fun K hK=>?_);with_reducible refine Qal (some 27) rfl rfl (.tmp 17) (.tmp 26) 34 rfl 2 _ 1 8 Qmu underlying34 rfl (by omega) rfl rfl hown hrd (Qaj _) (by omega) (by omega) hsz ?_
  intro A3 c3 w8 ho8 hg8 hat8;have hb8:=Bel.grownOwn HB5.out hg8 hown hsz;refine hK.out _ _ hb8 (fun _=>?_);clear hK K;simp only [Act.put,List.setIfInBounds_toArray,List.set_cons_zero,List.set_cons_succ];refine tz 11 6 ?_;refine Zd ?_;have HB8:=Zh hb8;have HO8:=Zh (show Own w8 v1.heap.size 2 1 A3 (i+1) c3 (Qag (cl ++[u])) by rw [Qbn];exact ho8)
  have HR8:=Zh (HRW.out.push HU.out);clear hown hrd hsz ho8 hg8 hat8 hb8 HSX
  go_wp2_with fail
  go_roundw
  case rel=>exact ⟨i+1,A3,c3,cl ++[u],by omega,by go_num,rfl,by rw [List.length_append,HCL.out];rfl,HO8.out,HR8.out,HB8.out⟩
  case measure=>simp [intOf];omega
end Go.Proofs.YteaoiabikjnkeaaGreatDoor
namespace Go.Proofs.YteaoiabikjnkeaaGreatDoor
open Go.RowKit Go.Extern.Stop Go.Stop Go.Extern Go.Proofs.Tryz
attribute [local go_sem ↓] Go.wp_at_zero Go.wp_at_succ
set_option maxRecDepth 20000 in
set_option maxHeartbeats 4000000 in
theorem Qlj (A B C Q:Option Addr)(n m k c d e L cq:Nat)(N:Qao) (ls:List (List Int)) (v a b:Int) (h1 h2 h3:Int) (w:World) (h:Qby w A B C n m k N) (hk:k≤9223372036854775807) (hq:RdT w Q L ls) (hL:L≤9223372036854775807) (hg:w.cell? ⟨0,0,none⟩=some Qnq) :
 Calls prog 4 #[.agg #[.slice A n c,.slice B m d,.slice C k e],.agg #[.slice Q L cq],.int .i64 v,.int .i64 a,.int .i64 b,.agg #[.int .i64 h1,.int .i64 h2,.int .i64 h3]] w fun r w'=>r=.returned (.bool true)∧Below w.heap.size w w':=by
 have HH:=Zh h;have HT:=Zh hq;have HG:=Zh hg;have HNA:=Zh (show N.ar.length=m from h.2.1.1)
 have HNV:=Zh (show N.vs.length=n from h.1.1)
 clear h hq hg
 go_enter func4,ntmps4
 go_wp2_with fail
 (refine Qad ?_;intro w1 hw1)
 have hb1:Below w.heap.size w w1:=by rw [hw1];exact Qah
 have hX:Blk w1 w.heap.size 26 #[.slice A n c,.slice B m d,.slice C k e]:=by rw [hw1];exact Qbd
 have hY:Blk w1 (w.heap.size+1) 29 #[.slice Q L cq]:=by rw [hw1];exact Qbd
 have HZ:=Zh (show Blk w1 (w.heap.size+1+1) 58 #[.int .i64 h1,.int .i64 h2,.int .i64 h3] by rw [hw1];exact Qbd)
 clear hw1;with_reducible refine (Quo w1 (Zc hb1 (Zn _) HG.out)).mono ?_
 rintro r w2 ⟨rfl,hb2⟩;have hq2:=hb2;have hX2:=hX.below hb2 hX.lt;have hY2:=hY.below hb2 hY.lt;have hb2':=Zb hb1 hb2;clear hX hY hb1 hb2;obtain ⟨x0,x1,x2⟩:=hX2.three;have y0:=hY2.cell 0;simp only [List.getElem?_toArray,List.getElem?_cons_zero] at y0
 go_wp2_with fail
 with_reducible refine (Qyq A B C Q n m k c d e L cq N ls w2 (HH.out.below hb2') hk (HT.out.below hb2') hL).mono ?_
 rintro r w3 ⟨hr,hb3⟩;have hb3':=Zb hb2' hb3;have hq3:=Zb hq2 hb3;have hX3:=hX2.below hb3 hX2.lt;have hY3:=hY2.below hb3 hY2.lt;clear x0 x1 x2 y0 hX2 hY2 hb2' hb3 hq2;obtain ⟨b,rfl,hGG⟩:=hr
 cases b with
 | false =>
  clear hGG
  go_wp2_with fail
  go_ret
  exact ⟨rfl,hb3'⟩
 | true =>
 have hmay:=hGG rfl;clear hGG;have HMAY:=Zh hmay;have hok:=hmay.small.ok;clear hmay;obtain ⟨x0,x1,x2⟩:=hX3.three;have y0:=hY3.cell 0;simp only [List.getElem?_toArray,List.getElem?_cons_zero] at y0
 go_wp2_with fail
 with_reducible refine (Qsz A B C Q n m k c d e L cq N ls w3 (HH.out.below hb3') hok (HT.out.below hb3') HMAY.out.part (Qsh HMAY.out)).mono ?_
 unfold Qsn;rintro r w5 ⟨⟨g,o,CB,NC,cl,F,rfl,hNCe,hG5,hF5,hO5,hC5,hA5⟩,hb5⟩;have HNC:=Zh hNCe;have HB5:=Zh (Zb hb3' hb5);have HQ5:=Zh (Zb hq3 hb5);have HX5:=Zh (hX3.below hb5 hX3.lt);have HY5:=Zh (hY3.below hb5 hY3.lt);have HG5:=Zh hG5.rd;have HO5:=Zh (hO5.le (Qbg _ _));have HC5:=Zh (show RdI w5 (some ⟨CB,0,none⟩) NC cl from ⟨hC5.1,fun i x hx=>by obtain ⟨b,o,e,h1⟩:=hC5.2 i x hx;exact ⟨b,o,e,Qbg _ _ _ _ h1⟩⟩)
 have HALL:=Zh hA5;clear x0 x1 x2 y0 hX3 hY3 hb5 hb3' hNCe hG5 hF5 hO5 hC5 hA5 hq3;obtain ⟨x0,x1,x2⟩:=HX5.out.three;have y0:=HY5.out.cell 0;simp only [List.getElem?_toArray,List.getElem?_cons_zero] at y0;have hS9:=Qsh HMAY.out;have HCQ:=Zh (fun V (hV:Below w.heap.size w V)=>Qjm A B C Q n m k c d e L cq N ls V (HH.out.below hV) hok (HT.out.below hV) HMAY.out.part hS9)
 go_wp2_with fail
 with_reducible refine (HCQ.out w5 HB5.out).mono ?_
 unfold Qql;rintro r w7 ⟨G,cg,AE,ce,EL,rfl,hG7,hE7,hEl,hEP,hb7⟩;have hNC9:NC≤1000000000:=by rw [HNC.out];exact hS9
 have HB7:=Zh (Zb HB5.out hb7);have HOD7:=Zh (show OvD w7 Q G AE L NC N ls EL from ⟨HT.out.below HB7.out,hG7,by rw [HNC.out,←hEl];exact hE7,by rw [hEl,HNC.out],HNC.out,hEP,hNC9⟩)
 rw [hEl,←HNC.out];have HX7:=Zh (HX5.out.below hb7 HX5.out.lt);have HG7:=Zh (HG5.out.below hb7);have HO7:=Zh (HO5.out.below hb7);have HC7:=Zh (HC5.out.below hb7);have HQ7:=Zh (Zb HQ5.out hb7);clear hG7 hE7 hEl hEP hb7 HCQ HX5 HY5 HG5 HO5 HC5 x0 x1 x2 y0;have HZ7:=Zh (HZ.out.below HQ7.out HZ.out.lt);obtain ⟨w8,hw8⟩:∃ w8,w8=w7.alloc (.cells #[.slice A n c,.slice B m d,.slice C k e,.slice Q L cq,.slice G L cg,.slice AE NC ce] 40):=⟨_,rfl⟩;have hb8:Below w7.heap.size w7 w8:=by rw [hw8];exact Qah
 have HY8:=Zh (show Blk w8 w7.heap.size 40 #[.slice A n c,.slice B m d,.slice C k e,.slice Q L cq,.slice G L cg,.slice AE NC ce] by rw [hw8];exact Blk.new _ _ _)
 have HX8:=Zh (HX7.out.below hb8 HX7.out.lt);have HZ8:=Zh (HZ7.out.below hb8 HZ7.out.lt);have HB8:=Zh (Zb HB7.out hb8);have hPn:Qay n ls:=by rw [←HNV.out];exact HMAY.out.part
 have HLA:=Zh (fun V (hV:Below w8.heap.size w8 V)=>Qgy V o N.ar ls n v a b (HO7.out.below (Zb hb8 hV)) hPn (by have:=HNV.out;have:=hok.lv;omega));have HLB:=Zh (fun V (hV:Below w8.heap.size w8 V)=>Qkl A Q n c L cq (.slice B m d) (.slice C k e) (.slice G L cg) (.slice AE NC ce) ls v a b V ((HOD7.out.below (Zb hb8 hV)).q) hPn);have HPA:=Zh (fun V (hV:Below w8.heap.size w8 V)=>Qjk V g o N ls (some ⟨CB,0,none⟩) NC NC cl h1 h2 h3 (HG7.out.below (Zb hb8 hV)) (HO7.out.below (Zb hb8 hV)) (HC7.out.below (Zb hb8 hV)) hok HMAY.out.part HALL.out hS9)
 have HPL:=Zh (fun V (hV:Below w8.heap.size w8 V)=>by
  have h9:=(HOD7.out.below (Zb hb8 hV));have:=Qne A B C Q G AE n m k c d e L cq cg ce EL (.slice A n c) (.slice B m d) (.slice C k e) N ls V (HH.out.below (Zb HB8.out hV)) hok h9.q HMAY.out.part h9.g (by rw [h9.len];exact h9.e) (by rw [h9.len];exact h9.sum) h9.ent hS9;rw [h9.len] at this;exact this)
 have HPB:=Zh (fun V (hV:Below w8.heap.size w8 V) A9 n9 c9 l9 (h9:RdI V A9 n9 l9) (hA:Qdd N ls l9)=>Qkp A B C Q G AE n m k c d e L cq cg NC ce (.slice A n c) (.slice B m d) (.slice C k e) N ls EL A9 n9 c9 l9 h1 h2 h3 V (HH.out.below (Zb HB8.out hV)) hok HMAY.out.part (HOD7.out.below (Zb hb8 hV)) h9 hA)
 have HSX:=Zh (show ∀ V,Below w8.heap.size w8 V→V.cell? ⟨w.heap.size,0,none⟩=some (.slice A n c)∧V.cell? ⟨w.heap.size,1,none⟩=some (.slice B m d)∧V.cell? ⟨w.heap.size,2,none⟩=some (.slice C k e) ∧
  V.cell? ⟨w7.heap.size,0,none⟩=some (.slice A n c)∧V.cell? ⟨w7.heap.size,1,none⟩=some (.slice B m d)∧V.cell? ⟨w7.heap.size,2,none⟩=some (.slice C k e)∧V.cell? ⟨w7.heap.size,3,none⟩=some (.slice Q L cq)∧V.cell? ⟨w7.heap.size,4,none⟩=some (.slice G L cg)∧V.cell? ⟨w7.heap.size,5,none⟩=some (.slice AE NC ce) ∧
  V.cell? ⟨w.heap.size+1+1,0,none⟩=some (.int .i64 h1)∧V.cell? ⟨w.heap.size+1+1,1,none⟩=some (.int .i64 h2)∧V.cell? ⟨w.heap.size+1+1,2,none⟩=some (.int .i64 h3) from fun V hV=>by
  have hX':=HX8.out.below hV HX8.out.lt;have hY':=HY8.out.below hV HY8.out.lt;have hZ':=HZ8.out.below hV HZ8.out.lt;exact ⟨Zq hX',Zq hX',Zq hX',Zq hY',Zq hY',Zq hY',Zq hY',Zq hY',Zq hY',Zq hZ',Zq hZ',Zq hZ'⟩)
 have Hw8:=Zh hw8;clear hw8 hb8 hS9 hPn;obtain ⟨lv,hlv⟩:∃ lv,lv=lvI n ls v a b:=⟨_,rfl⟩;rw [←hlv] at HLA HLB;clear hlv
 go_wp2_with fail
 rw [←Hw8.out];refine wp_region_held_drew (S:=fun V=>Below w8.heap.size w8 V) (by kernel_rfl) (Zr _ _).drew (fun _=>?_);refine tz 0 37 ?_;refine tz 1 38 ?_;refine tz 2 39 ?_;refine tz 3 40 ?_;refine tz 5 42 ?_;refine tz 6 43 ?_;refine tz 7 44 ?_;refine tz 8 45 ?_;refine Zk 4 (fun K hK=>?_);go_simp;with_reducible refine (HLA.out _ (Zr _ _).drew).mono ?_
 rintro r w9 ⟨rfl,hb9⟩;have hb9':Below w8.heap.size w8 w9:=(Zr _ _).drew.trans hb9;go_simp;refine hK.out _ _ hb9' (fun _=>?_);clear hK K hb9;refine Zk 9 (fun K hK=>?_);go_simp;with_reducible refine (HLB.out w9 hb9').mono ?_
 rintro r wa ⟨rfl,hba⟩;have hba':=Zb hb9' hba;go_simp;refine hK.out _ _ hba' (fun _=>?_);clear hK K hba hb9';have e1:(lv == lv)=true:=by simp
 refine tz 10 47 ?_;refine tz 11 48 ?_;refine tz 12 49 ?_;refine tz 13 50 ?_;refine tz 14 51 ?_;refine tz 15 52 ?_;refine tz 16 53 ?_;refine tz 17 54 ?_;refine tz 18 55 ?_;refine tz 19 56 ?_;refine tz 20 57 ?_;refine tz 21 58 ?_;refine tz 23 60 ?_;refine tz 24 61 ?_;refine tz 25 62 ?_;refine tz 26 63 ?_;refine tz 28 65 ?_;refine Zk 22 (fun K hK=>?_);go_simp;with_reducible refine (HPA.out wa hba').mono ?_
 unfold AprR;rintro r wb ⟨⟨pv,rfl,hpv⟩,hbb⟩;have hbb':=Zb hba' hbb;have HPV:=Zh hpv;go_simp;refine hK.out _ _ hbb' (fun _=>?_);clear hK K hbb hba' hpv;refine Zk 27 (fun K hK=>?_);go_simp;with_reducible refine (HPL.out wb hbb').mono ?_
 rintro r wc ⟨A9,c9,l9,rfl,h9,hA9,_,hbc⟩;have hbc':=Zb hbb' hbc;have HP9:=Zh (HPB.out wc hbc' A9 l9.length c9 l9 h9 hA9);go_simp;refine hK.out _ _ hbc' (fun _=>?_);clear hK K hbc hbb' h9 hA9;refine Zk 29 (fun K hK=>?_);go_simp;with_reducible refine HP9.out.mono ?_
 unfold PrR;rintro r wd ⟨⟨pw,rfl,hpw⟩,hbd⟩;obtain rfl:=HPV.out.uniq hpw;have hbd':=Zb hbc' hbd;go_simp;refine hK.out _ _ hbd' (fun _=>?_);clear hK K hbd hbc' hpw HP9;have e2:(pv == pv)=true:=by simp
 refine tz 30 67 ?_;refine tz 31 68 ?_;refine tz 32 12 ?_;refine Zd ?_
 go_wp2_with fail
 go_ret
 exact ⟨rfl,Zb HB8.out hbd'⟩
end Go.Proofs.YteaoiabikjnkeaaGreatDoor
namespace Go.Proofs.YteaoiabikjnkeaaGreatDoor
open Go.ChangeShapes Go.WideShapes Go.ChangeAt Go.RowKit Go.Deep
theorem own_:ownKnob Tryz.prog.godebug=none:=by kernel_rfl
theorem Qmy:laidOutB Tryz.prog=true:=by kernel_rfl
theorem Qvn {α:Type}{p:Nat→α→Prop}:∀ (n:Nat),(∀ i,i<n→∃ a,p i a)→∃ l:List α,l.length=n∧∀ i a,l[i]?=some a→p i a
 | 0,_=>⟨[],rfl,fun i a h=>by simp at h⟩
 | n+1,h=>by
  obtain ⟨l,hl,hp⟩:=Qvn n (fun i hi=>h i (by omega));obtain ⟨a,ha⟩:=h n (by omega);refine ⟨l ++[a],by simp [hl],fun i b hb=>?_⟩
  rcases Nat.lt_or_ge i n with h1|h1
  · rw [List.getElem?_append_left (by omega)] at hb;exact hp i b hb
  · rw [List.getElem?_append_right (by omega),hl] at hb
    have:i=n:=by
     rcases Nat.lt_or_ge (i-n) 1 with h2|h2
     · omega
     · rw [List.getElem?_eq_none (by simpa using h2)] at hb;cases hb
    subst this;simp at hb;subst hb;exact ha
section
variable {H:Type} {enc:TypeId×Value→H} {P:Program} {w:World} {base:Nat} {spare:Nat→Bool} {held:Bool}
theorem Qfa {α:Type}{t e k:Nat} (ht:P.underlying t=some (.slice e)) (hk:P.cellsOf e=k) (hk0:0<k) (Rel:List Value→α→Prop)
 (hel:∀ (fuel:Nat) (cs:List Value) (x:DataW H×List MemPlace),DataW.trod enc P w base spare held fuel e cs=some x→∃ a,Rel cs a)
 {A:Option Addr} {n c fuel:Nat} {x:DataW H×List MemPlace} (h:DataW.trod enc P w base spare held fuel t [.slice A n c]=some x) :
 ∃ l:List α,l.length=n∧n≤c∧c≤9223372036854775807∧(n=0∨∃ el sp,x.1=.slice el sp∧el.length=n) ∧
  ∀ i a,l[i]?=some a→∃ b o vs,A=some ⟨b,o,none⟩∧Rel vs a∧vs.length=k∧∀ j v,vs[j]?=some v→w.cell? ⟨b,o+i*k+j,none⟩=some v:=by
 rcases open_slice ht h with ⟨h0,_⟩|⟨a,len,cap,m,n',D,Pl,hcs,hb,hl,hm,hmm,hx,hi⟩
 · simp only [List.cons.injEq,Value.slice.injEq,and_true] at h0
   obtain ⟨rfl,rfl,rfl⟩:=h0;exact ⟨[],rfl,Zn _,by omega,.inl rfl,fun i a h=>by simp at h⟩
 · simp only [List.cons.injEq,Value.slice.injEq,and_true] at hcs
   obtain ⟨rfl,rfl,rfl⟩:=hcs;have hlm:n≤m:=by rw [hmm];split <;> omega
   obtain ⟨l,hll,hlp⟩:=Qvn (p:=fun i (y:α)=>∃ vs,Rel vs y∧vs.length=k∧∀ j v,vs[j]?=some v→w.cell? ((a.add (i*k)).add j)=some v) n (fun i hin=>by
    obtain ⟨cs',hc,ht'⟩:=hi i (by omega);rw [hk] at hc;obtain ⟨_,hlen,hat⟩:=World.cells?_some hc;obtain ⟨y,hy⟩:=hel _ _ _ ht';refine ⟨y,cs',hy,hlen,fun j v hv=>?_⟩;have hj:j<k:=by rw [←hlen];exact (Zs hv).1
    rw [hat j hj,hv])
   refine ⟨l,hll,hl,(by unfold maxLen at hm;omega),.inr ⟨_,_,by rw [hx],by simp⟩,fun i y hy=>?_⟩;obtain ⟨vs,h1,h2,h3⟩:=hlp i y hy
   have hspot:a.spot=none:=by
    have h4:=h3 0 vs[0] (Zg (by omega));have h5:=World.cell?_spot h4;unfold Addr.add at h5
    by_cases h6:i*k=0
    · simpa [h6] using h5
    · have hl0:l.length=n:=hll
      have h7:0<n:=by
       have:=(Zs hy).1;omega
      obtain ⟨y0,hy0⟩:∃ y0,l[0]?=some y0:=⟨l[0],Zg (by omega)⟩;obtain ⟨vs0,g1,g2,g3⟩:=hlp 0 y0 hy0;have g4:=World.cell?_spot (g3 0 vs0[0] (Zg (by omega)))
      simpa [Addr.add] using g4
   obtain ⟨b,o,sp⟩:=a;simp only at hspot;subst hspot;refine ⟨b,o,vs,rfl,h1,h2,fun j v hv=>?_⟩;have:=h3 j v hv;unfold Addr.add at this
   by_cases h6:i*k=0
   · by_cases h7:j=0
     · simpa [h6,h7] using this
     · simpa [h6,h7] using this
   · by_cases h7:j=0
     · simpa [h6,h7] using this
     · simpa [h6,h7] using this
theorem rel_int {k:IntKind}{e:Nat} (he:P.underlying e=some (.int k)) (fuel:Nat) (cs:List Value) (x:DataW H×List MemPlace) (h:DataW.trod enc P w base spare held fuel e cs=some x) :
 ∃ n:Int,cs=[.int k n]∧(Lit.int k n).wf=true:=by
 obtain ⟨n,h1,_,h3⟩:=DataW.trod_int he h;exact ⟨n,h1,h3⟩
theorem rel_bool {e:Nat}(he:P.underlying e=some .bool)(fuel:Nat)(cs:List Value)(x:DataW H×List MemPlace)(h:DataW.trod enc P w base spare held fuel e cs=some x) :
 ∃ n:Bool,cs=[.bool n]:=by
 obtain ⟨n,h1,_⟩:=DataW.trod_bool he h;exact ⟨n,h1⟩
theorem open_bools {t e:Nat} (ht:P.underlying t=some (.slice e)) (he:P.underlying e=some .bool) (hc:P.cellsOf e=1)
 {A:Option Addr} {n c fuel:Nat} {x:DataW H×List MemPlace} (h:DataW.trod enc P w base spare held fuel t [.slice A n c]=some x) :
 ∃ l:List Bool,RdB w A n l∧n≤c∧c≤9223372036854775807∧(n=0∨∃ el sp,x.1=.slice el sp∧el.length=n):=by
 obtain ⟨l,hl,hnc,hcm,hsz,hr⟩:=Qfa ht hc (by omega) (fun cs (p:Bool)=>cs=[.bool p]) (rel_bool he) h;refine ⟨l,⟨hl,fun i p hp=>?_⟩,hnc,hcm,hsz⟩;obtain ⟨b,o,vs,rfl,rfl,_,hv⟩:=hr i p hp;exact ⟨b,o,rfl,by have:=hv 0 _ rfl;simpa using this⟩
theorem Qlw {k:IntKind}{t e:Nat} (ht:P.underlying t=some (.slice e)) (he:P.underlying e=some (.int k)) (hc:P.cellsOf e=1)
 {A:Option Addr} {n c fuel:Nat} {x:DataW H×List MemPlace} (h:DataW.trod enc P w base spare held fuel t [.slice A n c]=some x) :
 ∃ l:List Int,RdK k w A n l∧n≤c∧c≤9223372036854775807∧(n=0∨∃ el sp,x.1=.slice el sp∧el.length=n)∧∀ a∈l,(Lit.int k a).wf=true:=by
 obtain ⟨l,hl,hnc,hcm,hsz,hr⟩:=Qfa ht hc (by omega) (fun cs (p:Int)=>cs=[.int k p]∧(Lit.int k p).wf=true) (rel_int he) h;refine ⟨l,⟨hl,fun i p hp=>?_⟩,hnc,hcm,hsz,fun a ha=>?_⟩
 · obtain ⟨b,o,vs,rfl,⟨rfl,_⟩,_,hv⟩:=hr i p hp
   exact ⟨b,o,rfl,by have:=hv 0 _ rfl;simpa using this⟩
 · obtain ⟨i,hi,e1⟩:=List.getElem_of_mem ha
   obtain ⟨b,o,vs,_,⟨_,h2⟩,_,_⟩:=hr i a (by rw [Zg hi,e1]);exact h2
end
end Go.Proofs.YteaoiabikjnkeaaGreatDoor
namespace Go.Proofs.YteaoiabikjnkeaaGreatDoor
open Go.ChangeShapes Go.WideShapes Go.ChangeAt Go.RowKit Go.Deep
theorem list_one {α:Type}:∀ {l:List α},l.length=1→∃ a,l=[a]
 | [a],_=>⟨a,rfl⟩
theorem Qev {α:Type}:∀ {l:List α},l.length=3→∃ a b c,l=[a,b,c]
 | [a,b,c],_=>⟨a,b,c,rfl⟩
section
variable {H:Type} {enc:TypeId×Value→H} {w:World} {base:Nat} {spare:Nat→Bool} {held:Bool}
theorem Qdw {t e:TypeId} (ht:Tryz.prog.underlying t=some (.slice e)) {fuel:Nat} {cs:List Value} {x:DataW H×List MemPlace} (h:DataW.trod enc Tryz.prog w base spare held fuel t cs=some x):∃ A n c,cs=[.slice A n c]:=by
 rcases open_slice ht h with ⟨h0,_⟩|⟨a,len,cap,m,n',D,Pl,hcs,_⟩
 · exact ⟨_,_,_,h0⟩
 · exact ⟨_,_,_,hcs⟩
theorem rel_row (fuel:Nat)(cs:List Value)(x:DataW H×List MemPlace)(h:DataW.trod enc Tryz.prog w base spare held fuel 67 cs=some x) :
 ∃ l:List Int,∃ A n c,cs=[.slice A n c]∧RdI w A n l∧n≤c∧c≤9223372036854775807:=by
 obtain ⟨A,n,c,rfl⟩:=Qdw Tryz.underlying67 h;obtain ⟨l,h1,h2,h3,_,_⟩:=Qlw Tryz.underlying67 Tryz.underlying3 (by kernel_rfl) h;exact ⟨l,A,n,c,rfl,h1,h2,h3⟩
theorem Qwo {cs:List Value}{fuel:Nat}{x:DataW H×List MemPlace}(h:DataW.trod enc Tryz.prog w base spare held fuel 29 cs=some x) :
 ∃ (A:Option Addr) (n c:Nat) (ls:List (List Int)),cs=[.slice A n c]∧RdT w A n ls∧n≤c∧c≤9223372036854775807:=by
 obtain ⟨xs,m,_,_,hcl,hxl,hi⟩:=DataW.trod_struct Tryz.underlying29 h;have hxl':xs.length=1:=hxl;have a0:DataW.trod enc Tryz.prog w base spare held m 27 ((cs.drop 0).take (Tryz.prog.cellsOf 27))=xs[0]?:=hi 0 _ rfl;rw [Zg (by omega)] at a0;obtain ⟨A,n,c,e0⟩:=Qdw Tryz.underlying27 a0;rw [e0] at a0;obtain ⟨l,hl,hnc,hcm,_,hr⟩:=Qfa Tryz.underlying27 (k:=1) (by kernel_rfl) (by omega) (fun cs (l:List Int)=>∃ A n c,cs=[.slice A n c]∧RdI w A n l∧n≤c∧c≤9223372036854775807) rel_row a0;rw [show Tryz.prog.cellsOf 29=1 by kernel_rfl] at hcl
 rw [show Tryz.prog.cellsOf 27=1 by kernel_rfl] at e0
 clear a0 hi h;obtain ⟨c0,rfl⟩:=list_one hcl;simp at e0;refine ⟨A,n,c,l,by simp [e0],⟨hl,fun i p hp=>?_⟩,hnc,hcm⟩;obtain ⟨b,o,vs,e,⟨A',n',c',e2,h1,h2,h3⟩,_,hv⟩:=hr i p hp;subst e2;exact ⟨b,o,A',n',c',e,by have:=hv 0 _ rfl;simpa using this,h1,h2,h3⟩
theorem rel_vert (fuel:Nat)(cs:List Value)(x:DataW H×List MemPlace)(h:DataW.trod enc Tryz.prog w base spare held fuel 157 cs=some x):∃ p:Tri,cs=[.int .i64 p.1,.int .i64 p.2.1,.int .i64 p.2.2]:=by
 obtain ⟨xs,m,_,_,hcl,hxl,hi⟩:=DataW.trod_struct Tryz.underlying157 h;have hxl':xs.length=3:=hxl;have a0:DataW.trod enc Tryz.prog w base spare held m 3 ((cs.drop 0).take (Tryz.prog.cellsOf 3))=xs[0]?:=hi 0 _ rfl;have a1:DataW.trod enc Tryz.prog w base spare held m 3 ((cs.drop 1).take (Tryz.prog.cellsOf 3))=xs[1]?:=hi 1 _ rfl;have a2:DataW.trod enc Tryz.prog w base spare held m 3 ((cs.drop 2).take (Tryz.prog.cellsOf 3))=xs[2]?:=hi 2 _ rfl;rw [Zg (by omega)] at a0 a1 a2;obtain ⟨n0,e0,_⟩:=DataW.trod_int Tryz.underlying3 a0;obtain ⟨n1,e1,_⟩:=DataW.trod_int Tryz.underlying3 a1;obtain ⟨n2,e2,_⟩:=DataW.trod_int Tryz.underlying3 a2;rw [show Tryz.prog.cellsOf 157=3 by kernel_rfl] at hcl
 rw [show Tryz.prog.cellsOf 3=1 by kernel_rfl] at e0 e1 e2
 clear a0 a1 a2 hi h;obtain ⟨c0,c1,c2,rfl⟩:=Qev hcl;simp at e0 e1 e2;exact ⟨(n0,n1,n2),by simp [e0,e1,e2]⟩
theorem rel_arc (fuel:Nat)(cs:List Value)(x:DataW H×List MemPlace)(h:DataW.trod enc Tryz.prog w base spare held fuel 152 cs=some x):∃ p:Tri,cs=[.int .i64 p.1,.int .i64 p.2.1,.int .i64 p.2.2]:=by
 obtain ⟨xs,m,_,_,hcl,hxl,hi⟩:=DataW.trod_struct Tryz.underlying152 h;have hxl':xs.length=3:=hxl;have a0:DataW.trod enc Tryz.prog w base spare held m 3 ((cs.drop 0).take (Tryz.prog.cellsOf 3))=xs[0]?:=hi 0 _ rfl;have a1:DataW.trod enc Tryz.prog w base spare held m 3 ((cs.drop 1).take (Tryz.prog.cellsOf 3))=xs[1]?:=hi 1 _ rfl;have a2:DataW.trod enc Tryz.prog w base spare held m 2 ((cs.drop 2).take (Tryz.prog.cellsOf 2))=xs[2]?:=hi 2 _ rfl;rw [Zg (by omega)] at a0 a1 a2;obtain ⟨n0,e0,_⟩:=DataW.trod_int Tryz.underlying3 a0;obtain ⟨n1,e1,_⟩:=DataW.trod_int Tryz.underlying3 a1;obtain ⟨n2,e2,_⟩:=DataW.trod_int Tryz.underlying2 a2;rw [show Tryz.prog.cellsOf 152=3 by kernel_rfl] at hcl
 rw [show Tryz.prog.cellsOf 3=1 by kernel_rfl] at e0 e1
 rw [show Tryz.prog.cellsOf 2=1 by kernel_rfl] at e2
 clear a0 a1 a2 hi h;obtain ⟨c0,c1,c2,rfl⟩:=Qev hcl;simp at e0 e1 e2;exact ⟨(n0,n1,n2),by simp [e0,e1,e2]⟩
def TabCs (w:World)(cs:List Value)(t:Qfk):Prop:=∃ (A:Option Addr) (n c:Nat),cs=[.int .i64 t.ins,.int .i64 t.outs,.slice A n c]∧RdI w A n t.costs∧n≤c∧c≤9223372036854775807
theorem rel_tab (fuel:Nat)(cs:List Value)(x:DataW H×List MemPlace)(h:DataW.trod enc Tryz.prog w base spare held fuel 155 cs=some x):∃ t:Qfk,TabCs w cs t:=by
 obtain ⟨xs,m,_,_,hcl,hxl,hi⟩:=DataW.trod_struct Tryz.underlying155 h;have hxl':xs.length=3:=hxl;have a0:DataW.trod enc Tryz.prog w base spare held m 3 ((cs.drop 0).take (Tryz.prog.cellsOf 3))=xs[0]?:=hi 0 _ rfl;have a1:DataW.trod enc Tryz.prog w base spare held m 3 ((cs.drop 1).take (Tryz.prog.cellsOf 3))=xs[1]?:=hi 1 _ rfl;have a2:DataW.trod enc Tryz.prog w base spare held m 34 ((cs.drop 2).take (Tryz.prog.cellsOf 34))=xs[2]?:=hi 2 _ rfl;rw [Zg (by omega)] at a0 a1 a2;obtain ⟨n0,e0,_⟩:=DataW.trod_int Tryz.underlying3 a0;obtain ⟨n1,e1,_⟩:=DataW.trod_int Tryz.underlying3 a1;obtain ⟨A,n,c,e2⟩:=Qdw Tryz.underlying34 a2;rw [e2] at a2;obtain ⟨l,h1,h2,h3,_,_⟩:=Qlw Tryz.underlying34 Tryz.underlying2 (by kernel_rfl) a2;rw [show Tryz.prog.cellsOf 155=3 by kernel_rfl] at hcl
 rw [show Tryz.prog.cellsOf 3=1 by kernel_rfl] at e0 e1
 rw [show Tryz.prog.cellsOf 34=1 by kernel_rfl] at e2
 clear a0 a1 a2 hi h;obtain ⟨c0,c1,c2,rfl⟩:=Qev hcl;simp at e0 e1 e2;exact ⟨⟨n0,n1,l⟩,A,n,c,by simp [e0,e1,e2],h1,h2,h3⟩
theorem open_net {cs:List Value}{fuel:Nat}{x:DataW H×List MemPlace}(h:DataW.trod enc Tryz.prog w base spare held fuel 26 cs=some x) :
 ∃ (A B C:Option Addr) (n m k c d e:Nat) (N:Qao),cs=[.slice A n c,.slice B m d,.slice C k e]∧Qby w A B C n m k N∧k≤9223372036854775807:=by
 obtain ⟨xs,f,_,_,hcl,hxl,hi⟩:=DataW.trod_struct Tryz.underlying26 h;have hxl':xs.length=3:=hxl;have a0:DataW.trod enc Tryz.prog w base spare held f 22 ((cs.drop 0).take (Tryz.prog.cellsOf 22))=xs[0]?:=hi 0 _ rfl;have a1:DataW.trod enc Tryz.prog w base spare held f 23 ((cs.drop 1).take (Tryz.prog.cellsOf 23))=xs[1]?:=hi 1 _ rfl;have a2:DataW.trod enc Tryz.prog w base spare held f 24 ((cs.drop 2).take (Tryz.prog.cellsOf 24))=xs[2]?:=hi 2 _ rfl;rw [Zg (by omega)] at a0 a1 a2;obtain ⟨A,n,c,e0⟩:=Qdw Tryz.underlying22 a0;obtain ⟨B,m,d,e1⟩:=Qdw Tryz.underlying23 a1;obtain ⟨C,k,e,e2⟩:=Qdw Tryz.underlying24 a2;rw [e0] at a0;rw [e1] at a1;rw [e2] at a2;obtain ⟨vs,hl0,_,_,_,hr0⟩:=Qfa Tryz.underlying22 (k:=3) (by kernel_rfl) (by omega) (fun cs (p:Tri)=>cs=[.int .i64 p.1,.int .i64 p.2.1,.int .i64 p.2.2]) rel_vert a0;obtain ⟨ar,hl1,_,_,_,hr1⟩:=Qfa Tryz.underlying23 (k:=3) (by kernel_rfl) (by omega) (fun cs (p:Tri)=>cs=[.int .i64 p.1,.int .i64 p.2.1,.int .i64 p.2.2]) rel_arc a1;obtain ⟨ts,hl2,hkc,hcm,_,hr2⟩:=Qfa Tryz.underlying24 (k:=3) (by kernel_rfl) (by omega) (TabCs w) rel_tab a2;rw [show Tryz.prog.cellsOf 26=3 by kernel_rfl] at hcl
 rw [show Tryz.prog.cellsOf 22=1 by kernel_rfl] at e0
 rw [show Tryz.prog.cellsOf 23=1 by kernel_rfl] at e1
 rw [show Tryz.prog.cellsOf 24=1 by kernel_rfl] at e2
 clear a0 a1 a2 hi h;obtain ⟨c0,c1,c2,rfl⟩:=Qev hcl;simp at e0 e1 e2;refine ⟨A,B,C,n,m,k,c,d,e,⟨vs,ar,ts⟩,by simp [e0,e1,e2],⟨⟨hl0,fun i p hp=>?_⟩,⟨hl1,fun i p hp=>?_⟩,⟨hl2,fun i p hp=>?_⟩⟩,by omega⟩
 · obtain ⟨b,o,us,e5,rfl,_,hv⟩:=hr0 i p hp
   exact ⟨b,o,e5,by have:=hv 0 _ rfl;simpa using this,hv 1 _ rfl,hv 2 _ rfl⟩
 · obtain ⟨b,o,us,e5,rfl,_,hv⟩:=hr1 i p hp
   exact ⟨b,o,e5,by have:=hv 0 _ rfl;simpa using this,hv 1 _ rfl,hv 2 _ rfl⟩
 · obtain ⟨b,o,us,e5,⟨A',n',c',rfl,h1,h2,h3⟩,_,hv⟩:=hr2 i p hp
   exact ⟨b,o,e5,by have:=hv 0 _ rfl;simpa using this,hv 1 _ rfl,A',n',c',hv 2 _ rfl,h1,h2,h3⟩
end
end Go.Proofs.YteaoiabikjnkeaaGreatDoor
