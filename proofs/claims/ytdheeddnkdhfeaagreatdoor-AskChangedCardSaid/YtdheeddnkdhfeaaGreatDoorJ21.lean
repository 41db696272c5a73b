/- Parts of the proof: AsB, AsJ, On. -/
import Derived.Test.YtdheeddnkdhfeaaGreatDoorJ20
namespace Go.Proofs.YtdheeddnkdhfeaaGreatDoor
open Go.RowKit Go.Proofs.Tryz
attribute [local go_sem ↓] Go.wp_at_zero Go.wp_at_succ
structure OvD (w:World) (Q G AE:Option Addr) (L S:Nat) (N:Qak) (ls:List (List Int)) (EL:List Ent):Prop where
 q:RdT w Q L ls
 g:RdG w G L (gatesOf N.ar ls)
 e:Rds w 4 AE S (Qer EL)
 len:EL.length=S
 sum:S=Qca (gatesOf N.ar ls)
 ent:EntP N ls EL
 s9:S≤1000000000
theorem OvD.below {w w':World}{Q G AE:Option Addr}{L S:Nat}{N:Qak} {ls:List (List Int)} {EL:List Ent} (h:OvD w Q G AE L S N ls EL) (hb:Below w.heap.size w w'):OvD w' Q G AE L S N ls EL :=
 ⟨h.q.below hb,h.g.le (Le.below hb),h.e.below hb,h.len,h.sum,h.ent,h.s9⟩
section
variable (A B C Q G AE:Option Addr) (n m k c d e L cq cg S ce:Nat) (xA xB xC:Value) (N:Qak) (ls:List (List Int)) (EL:List Ent)
set_option maxHeartbeats 1000000 in
theorem Qsv (lv f t:Int)(w:World)(h:Qbg w A B C n m k N)(hok:Qas N)(hP:Qbc N.vs.length ls)(hO:OvD w Q G AE L S N ls EL)(hn:enF N ls lv f<0∨leF N ls lv t≠enF N ls lv f) :
 Calls prog 25 #[.agg #[.slice A n c,.slice B m d,.slice C k e],.agg #[xA,xB,xC,.slice Q L cq,.slice G L cg,.slice AE S ce],.int .i64 lv,.int .i64 f,.int .i64 t] w fun r w'=>r=.returned (.int .i64 (-1))∧Below w.heap.size w w':=by
 have HEN:=Zh (fun V (hV:Below w.heap.size w V)=>Qht A B C Q n m k c d e L cq N ls lv f V (h.below hV) hok (hO.q.below hV) hP);have HLE:=Zh (fun V (hV:Below w.heap.size w V)=>Qhv A B C Q n m k c d e L cq N ls lv t V (h.below hV) hok (hO.q.below hV) hP);clear h hok hP hO
 go_enter func25,ntmps25
 go_wp2_with fail
 (refine Qab ?_;intro w1 hw1)
 have HB1:=Zh (show Below w.heap.size w w1 by rw [hw1];exact Qag)
 have hX:Blk w1 w.heap.size 26 #[.slice A n c,.slice B m d,.slice C k e]:=by rw [hw1];exact Qay
 have hY:Blk w1 (w.heap.size+1) 57 #[xA,xB,xC,.slice Q L cq,.slice G L cg,.slice AE S ce]:=by rw [hw1];exact Qay
 clear hw1;with_reducible refine (HEN.out w1 HB1.out).mono ?_
 rintro r w2 ⟨rfl,hb2⟩;have hX2:=hX.below hb2 hX.lt;have hY2:=hY.below hb2 hY.lt;have HB2:=Zh (Zb HB1.out hb2);clear hb2 hX hY HEN;obtain ⟨x0,x1,x2⟩:=hX2.three;have y0:w2.cell? ⟨w.heap.size+1,3,none⟩=some (.slice Q L cq):=Zq hY2;obtain ⟨ev,hev⟩:∃ ev,ev=enF N ls lv f:=⟨_,rfl⟩;rw [←hev] at hn ⊢
 by_cases h0:ev<0
 · clear hn hev HLE x0 x1 x2 y0 hX2 hY2
   go_wp2_with fail
   go_ret
   exact ⟨rfl,HB2.out⟩
 · have h1:leF N ls lv t≠ev:=hn.resolve_left h0
   clear hn hev
   go_wp2_with fail
   with_reducible refine (HLE.out w2 HB2.out).mono ?_
   rintro r w3 ⟨rfl,hb3⟩;have HB3:=Zh (Zb HB2.out hb3);clear hb3 HLE x0 x1 x2 y0 hX2 hY2;obtain ⟨lw,hlw⟩:∃ lw,lw=leF N ls lv t:=⟨_,rfl⟩;rw [←hlw] at h1 ⊢;clear hlw;have h2:(lw != ev)=true:=by simpa using h1
   go_wp2_with fail
   go_ret
   exact ⟨rfl,HB3.out⟩
set_option maxHeartbeats 2000000 in
theorem Qrw (j a b cc p q kk:Nat)(l:List Int)(x:Qam)(w:World)(h:Qbg w A B C n m k N)(hok:Qas N)(hP:Qbc N.vs.length ls)(hO:OvD w Q G AE L S N ls EL) (hl:ls[j]?=some l) (hx:(gateRow N.ar l)[cc]?=some x) (he:enF N ls ((j:Int)+1) (a:Int)=(cc:Int)) (hf:leF N ls ((j:Int)+1) (b:Int)=(cc:Int))
 (hp:plI x.1 (a:Int)=(p:Int)) (hq:plI x.2 (b:Int)=(q:Int)) (hk:EL[kk]?=some (j,cc,p,q)) (hu:∀ i f,i<kk→EL[i]?=some f→f≠(j,cc,p,q)) :
 Calls prog 25 #[.agg #[.slice A n c,.slice B m d,.slice C k e],.agg #[xA,xB,xC,.slice Q L cq,.slice G L cg,.slice AE S ce],.int .i64 ((j:Int)+1),.int .i64 a,.int .i64 b] w fun r w'=>r=.returned (.int .i64 kk)∧Below w.heap.size w w':=by
 have hL6:L≤6:=by rw [←hO.q.1];exact hP.l6
 have hgl:=Qbn hx;have hla:=hok.la
 have hcc:cc≤1000000:=by
  have h1:=(Zs hx).1;rw [Qau] at h1;have:=Qcm (l:=l) (n:=(N.vs.length:Int)) (fun x hx=>(hP.lvl l (Zm hl)).hi x hx) (by omega);have:=hok.lv;omega
 have HEN:=Zh (fun V (hV:Below w.heap.size w V)=>he▸Qht A B C Q n m k c d e L cq N ls ((j:Int)+1) a V (h.below hV) hok (hO.q.below hV) hP);have HLE:=Zh (fun V (hV:Below w.heap.size w V)=>hf▸Qhv A B C Q n m k c d e L cq N ls ((j:Int)+1) b V (h.below hV) hok (hO.q.below hV) hP);have HGA:=Zh (fun V (hV:Below w.heap.size w V)=>Qqg xA xB xC (.slice Q L cq) (.slice AE S ce) G L cg j cc N.ar ls l x V (hO.g.le (Le.below hV)) hl hx (by omega) hcc);have HAT:=Zh (fun V (hV:Below w.heap.size w V)=>Qvh xA xB xC (.slice Q L cq) (.slice G L cg) AE S ce kk j cc p q EL V (hO.e.below hV) hO.len hO.s9 hk hu);have HPI:=Zh (fun (A1:Option Addr) (n1 c1:Nat) V (hV:RdI V A1 n1 x.1)=>hp▸Qei A1 n1 c1 x.1 (a:Int) V hV (by rw [←hV.1];omega));have HPO:=Zh (fun (A1:Option Addr) (n1 c1:Nat) V (hV:RdI V A1 n1 x.2)=>hq▸Qei A1 n1 c1 x.2 (b:Int) V hV (by rw [←hV.1];omega));clear h hok hP hO hl hx he hf hp hq hk hu hgl hla hcc
 go_enter func25,ntmps25
 go_wp2_with fail
 (refine Qab ?_;intro w1 hw1)
 have HB1:=Zh (show Below w.heap.size w w1 by rw [hw1];exact Qag)
 have hX:Blk w1 w.heap.size 26 #[.slice A n c,.slice B m d,.slice C k e]:=by rw [hw1];exact Qay
 have hY:Blk w1 (w.heap.size+1) 57 #[xA,xB,xC,.slice Q L cq,.slice G L cg,.slice AE S ce]:=by rw [hw1];exact Qay
 clear hw1;with_reducible refine (HEN.out w1 HB1.out).mono ?_
 rintro r w2 ⟨rfl,hb2⟩;have hX2:=hX.below hb2 hX.lt;have hY2:=hY.below hb2 hY.lt;have HB2:=Zh (Zb HB1.out hb2);clear hb2 hX hY HEN;obtain ⟨x0,x1,x2⟩:=hX2.three;have y0:w2.cell? ⟨w.heap.size+1,3,none⟩=some (.slice Q L cq):=Zq hY2;have i0:¬((cc:Int)<0):=by omega
 have i1:((cc:Int) != (cc:Int))=false:=by simp
 go_wp2_with fail
 with_reducible refine (HLE.out w2 HB2.out).mono ?_
 rintro r w3 ⟨rfl,hb3⟩;have hY3:=hY2.below hb3 hY2.lt;have HB3:=Zh (Zb HB2.out hb3);clear hb3 HLE x0 x1 x2 y0 hX2 hY2;have y0:w3.cell? ⟨w.heap.size+1,0,none⟩=some xA:=Zq hY3;have y1:w3.cell? ⟨w.heap.size+1,1,none⟩=some xB:=Zq hY3;have y2:w3.cell? ⟨w.heap.size+1,2,none⟩=some xC:=Zq hY3;have y3:w3.cell? ⟨w.heap.size+1,3,none⟩=some (.slice Q L cq):=Zq hY3;have y4:w3.cell? ⟨w.heap.size+1,4,none⟩=some (.slice G L cg):=Zq hY3;have y5:w3.cell? ⟨w.heap.size+1,5,none⟩=some (.slice AE S ce):=Zq hY3
 go_wp2_with fail
 with_reducible refine (HGA.out w3 HB3.out).mono ?_
 rintro r w4 ⟨A1,n1,c1,A2,n2,c2,rfl,h41,h42,hb4⟩;have hY4:=hY3.below hb4 hY3.lt;have HB4:=Zh (Zb HB3.out hb4);clear hb4 HGA y0 y1 y2 y3 y4 y5 hY3
 go_wp2_with fail
 (refine Qai ?_;intro w5 hw5)
 have hb5:Below w4.heap.size w4 w5:=by rw [hw5];exact Qag
 have hZ:Blk w5 w4.heap.size 73 #[.slice A1 n1 c1,.slice A2 n2 c2]:=by rw [hw5];refine Blk.new' _ _ _ ?_;rfl
 clear hw5;have hY5:=hY4.below hb5 hY4.lt;have HB5:=Zh (Zb HB4.out hb5);have HI5:=Zh (h41.below hb5);have HJ5:=Zh (h42.below hb5)
 have HSX:=Zh (show ∀ V,Below w5.heap.size w5 V→V.cell? ⟨w.heap.size+1,0,none⟩=some xA∧V.cell? ⟨w.heap.size+1,1,none⟩=some xB∧V.cell? ⟨w.heap.size+1,2,none⟩=some xC∧V.cell? ⟨w.heap.size+1,3,none⟩=some (.slice Q L cq)∧V.cell? ⟨w.heap.size+1,4,none⟩=some (.slice G L cg)∧V.cell? ⟨w.heap.size+1,5,none⟩=some (.slice AE S ce)∧V.cell? ⟨w4.heap.size,0,none⟩=some (.slice A1 n1 c1)∧V.cell? ⟨w4.heap.size,1,none⟩=some (.slice A2 n2 c2) from fun V hV=>by
  have hO':=hY5.below hV hY5.lt;have hZ':=hZ.below hV hZ.lt;exact ⟨Zq hO',Zq hO',Zq hO',Zq hO',Zq hO',Zq hO',Zq hZ',Zq hZ'⟩)
 clear hb5 h41 h42 hZ hY4 hY5
 go_wp2_with fail
 refine wp_region_held_drew (S:=fun V=>Below w5.heap.size w5 V) (by kernel_rfl) (Zr _ _).drew (fun _=>?_);refine tz 0 35 ?_;refine tz 1 36 ?_;refine tz 2 37 ?_;refine tz 3 38 ?_;refine tz 4 39 ?_;refine tz 5 40 ?_;refine tz 7 42 ?_;refine tz 8 43 ?_;refine tz 9 44 ?_;refine Zk 6 (fun K hK=>?_);go_simp;with_reducible refine (HPI.out A1 n1 c1 _ (HI5.out.below (Zr _ _).drew)).mono ?_
 rintro r w' ⟨rfl,rfl⟩;go_simp;refine hK.out _ _ (Zr _ _).drew (fun _=>?_);clear hK K;refine Zk 10 (fun K hK=>?_);go_simp;with_reducible refine (HPO.out A2 n2 c2 _ (HJ5.out.below (Zr _ _).drew)).mono ?_
 rintro r w' ⟨rfl,rfl⟩;go_simp;refine hK.out _ _ (Zr _ _).drew (fun _=>?_);clear hK K;refine Zk 11 (fun K hK=>?_);go_simp;with_reducible refine (HAT.out _ (Zb HB5.out (Zr _ _).drew)).mono ?_
 rintro r w6 ⟨rfl,hb6⟩;have hb6':Below w5.heap.size w5 w6:=(Zr _ _).drew.trans hb6;go_simp;refine hK.out _ _ hb6' (fun _=>?_);clear hK K;refine tz 12 10 ?_;refine Zd ?_
 go_wp2_with fail
 go_ret
 exact ⟨rfl,Zb HB5.out hb6'⟩
def PrR (N:Qak) (ls:List (List Int)) (lv f t:Int) (w:World) (r:Ending) (w':World):Prop:=(∃ v,r=.returned (.int .i64 v)∧Qox N ls lv f t v)∧Below w.heap.size w w'
variable (CA:Option Addr) (NC cC:Nat) (cl:List Int)
set_option maxHeartbeats 2000000 in
theorem Qrn (lv f t:Int)(w:World)(h:Qbg w A B C n m k N)(hok:Qas N)(hP:Qbc N.vs.length ls)(hO:OvD w Q G AE L S N ls EL)(hc:RdI w CA NC cl)(hA:Qdh N ls cl) :
 Calls prog 79 #[.agg #[.slice A n c,.slice B m d,.slice C k e],.agg #[xA,xB,xC,.slice Q L cq,.slice G L cg,.slice AE S ce],.slice CA NC cC,.agg #[.int .i64 lv,.int .i64 f,.int .i64 t]] w (PrR N ls lv f t w):=by
 have hml:=h.2.1.1;have hm:m≤16384:=by rw [←h.2.1.1];exact hok.la
 have HNO:=Zh (fun (hn:∀ (a b:Nat),f=(a:Int)→t=(b:Int)→a<N.ar.length→b<N.ar.length→lv≠0∧¬LeapQ N ls lv a b)=>Qkg (lv:=lv) (f:=f) (t:=t) hn);unfold PrR
 by_cases hf:0≤f∧f<(m:Int)
 rotate_left
 · have HTF:=Zh (fun V=>Qeh A B C n m k c d e f V hf)
   have HPR:=Zh (HNO.out (fun a b e1 _ h1 _=>absurd ⟨by omega,by omega⟩ hf));clear h hok hP hO hc hA hml hm hf HNO
   go_enter func79,ntmps79
   go_wp2_with fail
   (refine Qab ?_;intro w1 hw1)
   have HB1:=Zh (show Below w.heap.size w w1 by rw [hw1];exact Qag)
   have hX:Blk w1 w.heap.size 26 #[.slice A n c,.slice B m d,.slice C k e]:=by rw [hw1];exact Qay
   have hY:Blk w1 (w.heap.size+1) 57 #[xA,xB,xC,.slice Q L cq,.slice G L cg,.slice AE S ce]:=by rw [hw1];exact Qay
   have hZ:Blk w1 (w.heap.size+2) 164 #[.int .i64 lv,.int .i64 f,.int .i64 t]:=by rw [hw1];exact Qay
   clear hw1;with_reducible refine (HTF.out w1).mono ?_
   rintro r w2 ⟨rfl,hb2⟩;have hX2:=hX.below hb2 hX.lt;have hY2:=hY.below hb2 hY.lt;have hZ2:=hZ.below hb2 hZ.lt;have HB2:=Zh (Zb HB1.out hb2);clear hb2 hX hY hZ;obtain ⟨x0,x1,x2⟩:=hX2.three;obtain ⟨z0,z1,z2⟩:=hZ2.three
   go_wp2_with fail
   go_ret
   exact ⟨⟨_,rfl,HPR.out⟩,HB2.out⟩
 have HTF:=Zh (fun V=>Qbx A B C n m k c d e f V hf.1 hf.2)
 by_cases ht:0≤t∧t<(m:Int)
 rotate_left
 · have HTT:=Zh (fun V=>Qeh A B C n m k c d e t V ht)
   have HPR:=Zh (HNO.out (fun a b _ e2 _ h2=>absurd ⟨by omega,by omega⟩ ht));clear h hok hP hO hc hA hml hm hf ht HNO
   go_enter func79,ntmps79
   go_wp2_with fail
   (refine Qab ?_;intro w1 hw1)
   have HB1:=Zh (show Below w.heap.size w w1 by rw [hw1];exact Qag)
   have hX:Blk w1 w.heap.size 26 #[.slice A n c,.slice B m d,.slice C k e]:=by rw [hw1];exact Qay
   have hY:Blk w1 (w.heap.size+1) 57 #[xA,xB,xC,.slice Q L cq,.slice G L cg,.slice AE S ce]:=by rw [hw1];exact Qay
   have hZ:Blk w1 (w.heap.size+2) 164 #[.int .i64 lv,.int .i64 f,.int .i64 t]:=by rw [hw1];exact Qay
   clear hw1;with_reducible refine (HTF.out w1).mono ?_
   rintro r w2 ⟨rfl,hb2⟩;have hX2:=hX.below hb2 hX.lt;have hY2:=hY.below hb2 hY.lt;have hZ2:=hZ.below hb2 hZ.lt;have HB2:=Zh (Zb HB1.out hb2);clear hb2 hX hY hZ;obtain ⟨x0,x1,x2⟩:=hX2.three;obtain ⟨z0,z1,z2⟩:=hZ2.three
   go_wp2_with fail
   with_reducible refine (HTT.out w2).mono ?_
   rintro r w3 ⟨rfl,hb3⟩;have hX3:=hX2.below hb3 hX2.lt;have hY3:=hY2.below hb3 hY2.lt;have hZ3:=hZ2.below hb3 hZ2.lt;have HB3:=Zh (Zb HB2.out hb3);clear hb3 x0 x1 x2 z0 z1 z2 hX2 hY2 hZ2
   go_wp2_with fail
   go_ret
   exact ⟨⟨_,rfl,HPR.out⟩,HB3.out⟩
 have HTT:=Zh (fun V=>Qbx A B C n m k c d e t V ht.1 ht.2);obtain ⟨a,rfl⟩:∃ a:Nat,f=(a:Int):=⟨f.toNat,by omega⟩;obtain ⟨b,rfl⟩:∃ b:Nat,t=(b:Int):=⟨t.toNat,by omega⟩;have ham:a<m:=by omega
 have hbm:b<m:=by omega
 obtain ⟨y,hy⟩:∃ y,N.ar[a]?=some y:=⟨_,Zg (by omega)⟩;obtain ⟨z,hz⟩:∃ z,N.ar[b]?=some z:=⟨_,Zg (by omega)⟩;have HZW:=Zh (show 0≤z.2.2∧z.2.2≤1152921504606846976 from by have:=Qdw (hok.arcs z (Zm hz)).w;omega)
 obtain ⟨ab,ao,hB,_,_,d2⟩:=h.2.1.2 b z hz;have HD2:=Zh d2;clear d2;have k1:(b:Int)<(m:Int):=by omega
 have k2:(0:Int)≤(b:Int):=by omega
 by_cases hlv:lv=0
 · subst hlv
   have HPR:=Zh (Qgw (ls:=ls) hy hz);have HTU:=Zh (fun V (hV:Below w.heap.size w V)=>Qvn A B C n m k c d e N a b y z V (h.below hV) hok hy hz);have HTN:=Zh (Qcw hok a b);subst hB;clear h hok hP hO hc hA hml hm hf ht HNO hy hz ham hbm
   go_enter func79,ntmps79
   go_wp2_with fail
   (refine Qab ?_;intro w1 hw1)
   have HB1:=Zh (show Below w.heap.size w w1 by rw [hw1];exact Qag)
   have hX:Blk w1 w.heap.size 26 #[.slice A n c,.slice (some ⟨ab,ao,none⟩) m d,.slice C k e]:=by rw [hw1];exact Qay
   have hY:Blk w1 (w.heap.size+1) 57 #[xA,xB,xC,.slice Q L cq,.slice G L cg,.slice AE S ce]:=by rw [hw1];exact Qay
   have hZ:Blk w1 (w.heap.size+2) 164 #[.int .i64 0,.int .i64 (a:Int),.int .i64 (b:Int)]:=by rw [hw1];exact Qay
   clear hw1;with_reducible refine (HTF.out w1).mono ?_
   rintro r w2 ⟨rfl,hb2⟩;have hX2:=hX.below hb2 hX.lt;have hY2:=hY.below hb2 hY.lt;have hZ2:=hZ.below hb2 hZ.lt;have HB2:=Zh (Zb HB1.out hb2);clear hb2 hX hY hZ;obtain ⟨x0,x1,x2⟩:=hX2.three;obtain ⟨z0,z1,z2⟩:=hZ2.three
   go_wp2_with fail
   with_reducible refine (HTT.out w2).mono ?_
   rintro r w3 ⟨rfl,hb3⟩;have hX3:=hX2.below hb3 hX2.lt;have hY3:=hY2.below hb3 hY2.lt;have hZ3:=hZ2.below hb3 hZ2.lt;have HB3:=Zh (Zb HB2.out hb3);clear hb3 x0 x1 x2 z0 z1 z2 hX2 hY2 hZ2
   have HSX:=Zh (show ∀ V,Below w3.heap.size w3 V→V.cell? ⟨w.heap.size,0,none⟩=some (.slice A n c)∧V.cell? ⟨w.heap.size,1,none⟩=some (.slice (some ⟨ab,ao,none⟩) m d)∧V.cell? ⟨w.heap.size,2,none⟩=some (.slice C k e)∧V.cell? ⟨w.heap.size+2,0,none⟩=some (.int .i64 0)∧V.cell? ⟨w.heap.size+2,1,none⟩=some (.int .i64 a)∧V.cell? ⟨w.heap.size+2,2,none⟩=some (.int .i64 b)∧V.cell? ⟨ab,ao+b*3+2,none⟩=some (.int .i64 z.2.2) from fun V hV=>by
    have hX':=hX3.below hV hX3.lt;have hZ':=hZ3.below hV hZ3.lt;exact ⟨Zq hX',Zq hX',Zq hX',Zq hZ',Zq hZ',Zq hZ',Zc (Zb HB3.out hV) (Zn _) HD2.out⟩)
   obtain ⟨z0,z1,z2⟩:=hZ3.three;clear hX3 hY3
   go_wp2_with fail
   clear z0 z1 z2 hZ3;refine wp_region_held_drew (S:=fun V=>Below w3.heap.size w3 V) (by kernel_rfl) (Zr _ _).drew (fun _=>?_);refine tz 0 25 ?_;refine tz 1 26 ?_;refine tz 2 27 ?_;refine tz 3 28 ?_;refine tz 4 29 ?_;refine tz 6 31 ?_;refine tz 7 32 ?_;refine tz 8 33 ?_;refine tz 9 34 ?_;refine tz 10 35 ?_;refine tz 11 36 ?_;refine tz 12 37 ?_;refine Zk 5 (fun K hK=>?_);go_simp;with_reducible refine (HTU.out _ (Zb HB3.out (Zr _ _).drew)).mono ?_
   rintro r w4 ⟨rfl,hb4⟩;have hb4':Below w3.heap.size w3 w4:=(Zr _ _).drew.trans hb4;clear hb4;go_simp;refine hK.out _ _ hb4' (fun _=>?_);clear hK K;refine Zk 13 (fun K hK=>?_);go_simp;with_reducible refine (Qgm _ _ w4 (by have:=HTN.out;omega) HZW.out).mono ?_
   rintro r w' ⟨rfl,rfl⟩;go_simp;refine hK.out _ _ hb4' (fun _=>?_);clear hK K;refine tz 14 8 ?_;refine Zd ?_
   go_wp2_with fail
   go_ret
   exact ⟨⟨_,rfl,HPR.out⟩,Zb HB3.out hb4'⟩
 by_cases hen:enF N ls lv (a:Int)<0∨leF N ls lv (b:Int)≠enF N ls lv (a:Int)
 · have HEY:=Zh (fun V (hV:Below w.heap.size w V)=>Qsv A B C Q G AE n m k c d e L cq cg S ce xA xB xC N ls EL lv a b V (h.below hV) hok hP (hO.below hV) hen)
   have HPR:=Zh (HNO.out (fun a' b' e1 e2 _ _=>⟨hlv,Qxx hok hP hen a' b' e1 e2⟩));clear h hok hP hO hc hA hml hm hf ht HNO hy hz ham hbm hB hen
   go_enter func79,ntmps79
   go_wp2_with fail
   (refine Qab ?_;intro w1 hw1)
   have HB1:=Zh (show Below w.heap.size w w1 by rw [hw1];exact Qag)
   have hX:Blk w1 w.heap.size 26 #[.slice A n c,.slice B m d,.slice C k e]:=by rw [hw1];exact Qay
   have hY:Blk w1 (w.heap.size+1) 57 #[xA,xB,xC,.slice Q L cq,.slice G L cg,.slice AE S ce]:=by rw [hw1];exact Qay
   have hZ:Blk w1 (w.heap.size+2) 164 #[.int .i64 lv,.int .i64 (a:Int),.int .i64 (b:Int)]:=by rw [hw1];exact Qay
   clear hw1;with_reducible refine (HTF.out w1).mono ?_
   rintro r w2 ⟨rfl,hb2⟩;have hX2:=hX.below hb2 hX.lt;have hY2:=hY.below hb2 hY.lt;have hZ2:=hZ.below hb2 hZ.lt;have HB2:=Zh (Zb HB1.out hb2);clear hb2 hX hY hZ;obtain ⟨x0,x1,x2⟩:=hX2.three;obtain ⟨z0,z1,z2⟩:=hZ2.three
   go_wp2_with fail
   with_reducible refine (HTT.out w2).mono ?_
   rintro r w3 ⟨rfl,hb3⟩;have hX3:=hX2.below hb3 hX2.lt;have hY3:=hY2.below hb3 hY2.lt;have hZ3:=hZ2.below hb3 hZ2.lt;have HB3:=Zh (Zb HB2.out hb3);clear hb3 x0 x1 x2 z0 z1 z2 hX2 hY2 hZ2;obtain ⟨z0,z1,z2⟩:=hZ3.three;obtain ⟨x0,x1,x2⟩:=hX3.three;have y0:w3.cell? ⟨w.heap.size+1,0,none⟩=some xA:=Zq hY3;have y1:w3.cell? ⟨w.heap.size+1,1,none⟩=some xB:=Zq hY3;have y2:w3.cell? ⟨w.heap.size+1,2,none⟩=some xC:=Zq hY3;have y3:w3.cell? ⟨w.heap.size+1,3,none⟩=some (.slice Q L cq):=Zq hY3;have y4:w3.cell? ⟨w.heap.size+1,4,none⟩=some (.slice G L cg):=Zq hY3;have y5:w3.cell? ⟨w.heap.size+1,5,none⟩=some (.slice AE S ce):=Zq hY3;have hZ3':=hZ3;clear hX3 hY3 hZ3
   go_wp2_with fail
   clear z0 z1 z2 x0 x1 x2 y0 y1 y2 y3 y4 y5;with_reducible refine (HEY.out w3 HB3.out).mono ?_
   rintro r w4 ⟨rfl,hb4⟩;have HB4:=Zh (Zb HB3.out hb4);clear hb4 HEY
   go_wp2_with fail
   go_ret
   exact ⟨⟨_,rfl,HPR.out⟩,HB4.out⟩
 · have he0:0≤enF N ls lv (a:Int):=by omega
   have hle:leF N ls lv (b:Int)=enF N ls lv (a:Int):=by
    by_cases h1:leF N ls lv (b:Int)=enF N ls lv (a:Int)
    · exact h1
    · exact absurd (.inr h1) hen
   obtain ⟨a',b',j,l,y',z',e1,e2,rfl,hl,hy',hz',g1,g2,g3,g4⟩:=Qzo he0 hle;obtain rfl:a=a':=by omega
   obtain rfl:b=b':=by omega
   rw [hy] at hy'
   cases hy'
   rw [hz] at hz'
   cases hz'
   obtain ⟨cc,p,q,kk,x,hcc,hx,hp,hq,_,_,hI⟩:=Qpy hok hP hl hy hz g1 g2 g3;obtain ⟨hkk,huu⟩:=leap_ent hO.ent (by rw [hO.len,hO.sum]) hI;rw [hcc] at g4;have HEY:=Zh (fun V (hV:Below w.heap.size w V)=>Qrw A B C Q G AE n m k c d e L cq cg S ce xA xB xC N ls EL j a b cc p q kk l x V (h.below hV) hok hP (hO.below hV) hl hx g4 (by rw [hle,g4]) hp hq hkk huu);obtain ⟨v,hv,hpr⟩:=Qtg hA hl hy hz g1 g2 g3 hcc hI;have HPR:=Zh hpr;have HVB:=Zh (hA.cost hok v (Zm hv));have hkn:kk<NC:=by rw [←hc.1];exact (Zs hv).1
   have hNC9:NC≤1000000000:=by rw [←hc.1,hA.1,←hO.sum];exact hO.s9
   obtain ⟨cb,co,v',rfl,hv',cv⟩:=hc.at_ hkn;rw [hv] at hv'
   cases hv'
   have HCV:=Zh cv;subst hB;have k3:(kk:Int)<(NC:Int):=by omega
   have k4:(0:Int)≤(kk:Int):=by omega
   have k5:¬(kk:Int)<0:=by omega
   clear h hok hP hO hc hA hml hm hf ht HNO hy hz ham hbm hen he0 hle g1 g2 g3 g4 hcc hx hp hq hI hkk huu hv hpr cv e1 e2 hl
   go_enter func79,ntmps79
   go_wp2_with fail
   (refine Qab ?_;intro w1 hw1)
   have HB1:=Zh (show Below w.heap.size w w1 by rw [hw1];exact Qag)
   have hX:Blk w1 w.heap.size 26 #[.slice A n c,.slice (some ⟨ab,ao,none⟩) m d,.slice C k e]:=by rw [hw1];exact Qay
   have hY:Blk w1 (w.heap.size+1) 57 #[xA,xB,xC,.slice Q L cq,.slice G L cg,.slice AE S ce]:=by rw [hw1];exact Qay
   have hZ:Blk w1 (w.heap.size+2) 164 #[.int .i64 ((j:Int)+1),.int .i64 (a:Int),.int .i64 (b:Int)]:=by rw [hw1];exact Qay
   clear hw1;with_reducible refine (HTF.out w1).mono ?_
   rintro r w2 ⟨rfl,hb2⟩;have hX2:=hX.below hb2 hX.lt;have hY2:=hY.below hb2 hY.lt;have hZ2:=hZ.below hb2 hZ.lt;have HB2:=Zh (Zb HB1.out hb2);clear hb2 hX hY hZ;obtain ⟨x0,x1,x2⟩:=hX2.three;obtain ⟨z0,z1,z2⟩:=hZ2.three
   go_wp2_with fail
   with_reducible refine (HTT.out w2).mono ?_
   rintro r w3 ⟨rfl,hb3⟩;have hX3:=hX2.below hb3 hX2.lt;have hY3:=hY2.below hb3 hY2.lt;have hZ3:=hZ2.below hb3 hZ2.lt;have HB3:=Zh (Zb HB2.out hb3);clear hb3 x0 x1 x2 z0 z1 z2 hX2 hY2 hZ2;have hX4':=hX3;obtain ⟨z0,z1,z2⟩:=hZ3.three;obtain ⟨x0,x1,x2⟩:=hX3.three;have y0:w3.cell? ⟨w.heap.size+1,0,none⟩=some xA:=Zq hY3;have y1:w3.cell? ⟨w.heap.size+1,1,none⟩=some xB:=Zq hY3;have y2:w3.cell? ⟨w.heap.size+1,2,none⟩=some xC:=Zq hY3;have y3:w3.cell? ⟨w.heap.size+1,3,none⟩=some (.slice Q L cq):=Zq hY3;have y4:w3.cell? ⟨w.heap.size+1,4,none⟩=some (.slice G L cg):=Zq hY3;have y5:w3.cell? ⟨w.heap.size+1,5,none⟩=some (.slice AE S ce):=Zq hY3;have hZ3':=hZ3;clear hX3 hY3 hZ3
   go_wp2_with fail
   clear z0 z1 z2 x0 x1 x2 y0 y1 y2 y3 y4 y5;with_reducible refine (HEY.out w3 HB3.out).mono ?_
   rintro r w4 ⟨rfl,hb4⟩;have HB4:=Zh (Zb HB3.out hb4);have hX4:=hX4'.below hb4 hX4'.lt;have hZ4:=hZ3'.below hb4 hZ3'.lt;clear hb4 HEY hX4' hZ3'
   have HSX:=Zh (show ∀ V,Below w4.heap.size w4 V→V.cell? ⟨w.heap.size,1,none⟩=some (.slice (some ⟨ab,ao,none⟩) m d)∧V.cell? ⟨w.heap.size+2,2,none⟩=some (.int .i64 b)∧V.cell? ⟨ab,ao+b*3+2,none⟩=some (.int .i64 z.2.2)∧V.cell? ⟨cb,co+kk,none⟩=some (.int .i64 v) from fun V hV=>by
    have hX':=hX4.below hV hX4.lt;have hZ':=hZ4.below hV hZ4.lt;exact ⟨Zq hX',Zq hZ',Zc (Zb HB4.out hV) (Zn _) HD2.out,Zc (Zb HB4.out hV) (Zn _) HCV.out⟩)
   clear hX4 hZ4
   go_wp2_with fail
   refine wp_region_held_drew (S:=fun V=>Below w4.heap.size w4 V) (by kernel_rfl) (Zr _ _).drew (fun _=>?_);refine tz 0 50 ?_;refine tz 1 51 ?_;refine tz 2 52 ?_;refine tz 3 53 ?_;refine tz 4 54 ?_;refine tz 5 55 ?_;refine tz 6 56 ?_;refine tz 7 57 ?_;refine tz 8 58 ?_;refine tz 9 59 ?_;refine tz 10 60 ?_;refine Zk 11 (fun K hK=>?_);go_simp;with_reducible refine (Qgm _ _ _ HVB.out HZW.out).mono ?_
   rintro r w' ⟨rfl,rfl⟩;go_simp;refine hK.out _ _ (Zr _ _).drew (fun _=>?_);clear hK K;refine tz 12 8 ?_;refine Zd ?_
   go_wp2_with fail
   go_ret
   exact ⟨⟨_,rfl,HPR.out⟩,HB4.out.drew⟩
end
theorem Qwp (A:Option Addr)(n c:Nat)(xB xC xQ xG xE:Value)(v:Int)(w:World)(h:inR n v) :
 Calls prog 130 #[.agg #[.slice A n c,xB,xC,xQ,xG,xE],.int .i64 v] w fun e w'=>e=.returned (.bool true)∧Below w.heap.size w w':=by
 have h0:0≤v:=h.1;have h1:v<(n:Int):=h.2
 clear h
 go_enter func130,ntmps130
 exact Kaz
theorem Qup (A:Option Addr)(n c:Nat)(xB xC xQ xG xE:Value)(v:Int)(w:World)(h:¬inR n v) :
 Calls prog 130 #[.agg #[.slice A n c,xB,xC,xQ,xG,xE],.int .i64 v] w fun e w'=>e=.returned (.bool false)∧Below w.heap.size w w':=by
 by_cases h0:0≤v
 · have h1:¬v<(n:Int):=fun h1=>h ⟨h0,h1⟩
   clear h
   go_enter func130,ntmps130
   exact Kaz
 · clear h
   go_enter func130,ntmps130
   exact Kaz
set_option maxRecDepth 20000 in
set_option maxHeartbeats 2000000 in
theorem Qsp (A Q:Option Addr)(n c L cq:Nat)(xB xC xG xE:Value) (ls:List (List Int)) (v a b:Int) (w:World) (h:RdT w Q L ls) (hP:Qbc n ls) :
 Calls prog 78 #[.agg #[.slice A n c,xB,xC,.slice Q L cq,xG,xE],.int .i64 v,.int .i64 a,.int .i64 b] w fun e w'=>e=.returned (.int .i64 (lvI n ls v a b))∧Below w.heap.size w w':=by
 have hL6:L≤6:=by rw [←h.1];exact hP.l6
 have HLL:=Zh h.1;have HT:=Zh h;have HP:=Zh hP;have HVA:=Zh (fun (x:Int) (hx:inR n x) V=>Qwp A n c xB xC (.slice Q L cq) xG xE x V hx);have HVZ:=Zh (fun (x:Int) (hx:¬inR n x) V=>Qup A n c xB xC (.slice Q L cq) xG xE x V hx);clear h hP
 by_cases hv:inR n v
 rotate_left
 · have HZ:=Zh (show lvI n ls v a b=0 by unfold lvI;rw [if_neg (fun h=>hv h.1)])
   have HVN:=Zh (fun V (_:Below w.heap.size w V)=>HVZ.out v hv V);clear hv
   go_enter func78,ntmps78
   go_wp2_with fail
   (refine Qab ?_;intro w1 hw1)
   have HBB:=Zh (show Below w.heap.size w w1 by rw [hw1];exact Qag)
   clear hw1;with_reducible refine (HVN.out _ HBB.out).mono ?_
   rintro r w2 ⟨rfl,hb2⟩;have HB2:=Zh (Zb HBB.out hb2);clear hb2
   go_wp2_with fail
   go_ret
   rw [HZ.out];exact ⟨rfl,HB2.out⟩
 by_cases ha:inR n a
 rotate_left
 · have HZ:=Zh (show lvI n ls v a b=0 by unfold lvI;rw [if_neg (fun h=>ha h.2.1)])
   have HV1:=Zh (fun V=>HVA.out v hv V);have HV2:=Zh (fun V=>HVZ.out a ha V);clear hv ha
   go_enter func78,ntmps78
   go_wp2_with fail
   (refine Qab ?_;intro w1 hw1)
   have HBB:=Zh (show Below w.heap.size w w1 by rw [hw1];exact Qag)
   have hX:Blk w1 w.heap.size 57 #[.slice A n c,xB,xC,.slice Q L cq,xG,xE]:=by rw [hw1];refine Blk.new' _ _ _ ?_;rfl
   clear hw1;with_reducible refine (HV1.out _).mono ?_
   rintro r w2 ⟨rfl,hb2⟩;have hX2:=hX.below hb2 hX.lt;have hl2:=hX2.lt;have x0:w2.cell? ⟨w.heap.size,0,none⟩=some (.slice A n c):=Zq hX2;have x1:w2.cell? ⟨w.heap.size,1,none⟩=some xB:=Zq hX2;have x2:w2.cell? ⟨w.heap.size,2,none⟩=some xC:=Zq hX2;have x3:w2.cell? ⟨w.heap.size,3,none⟩=some (.slice Q L cq):=Zq hX2;have x4:w2.cell? ⟨w.heap.size,4,none⟩=some xG:=Zq hX2;have x5:w2.cell? ⟨w.heap.size,5,none⟩=some xE:=Zq hX2;have HB2:=Zh (Zb HBB.out hb2);clear hb2 hX hX2
   go_wp2_with fail
   with_reducible refine (HV2.out _).mono ?_
   rintro r w3 ⟨rfl,hb3⟩;have HB3:=Zh (Zb HB2.out hb3);clear hb3
   go_wp2_with fail
   go_ret
   rw [HZ.out];exact ⟨rfl,HB3.out⟩
 have HV1:=Zh (fun V=>HVA.out v hv V);have HV2:=Zh (fun V=>HVA.out a ha V)
 by_cases hb:inR n b
 rotate_left
 · have HZ:=Zh (show lvI n ls v a b=0 by unfold lvI;rw [if_neg (fun h=>hb h.2.2)])
   have HV3:=Zh (fun V=>HVZ.out b hb V);clear hv ha hb
   go_enter func78,ntmps78
   go_wp2_with fail
   (refine Qab ?_;intro w1 hw1)
   have HBB:=Zh (show Below w.heap.size w w1 by rw [hw1];exact Qag)
   have hX:Blk w1 w.heap.size 57 #[.slice A n c,xB,xC,.slice Q L cq,xG,xE]:=by rw [hw1];refine Blk.new' _ _ _ ?_;rfl
   clear hw1;with_reducible refine (HV1.out _).mono ?_
   rintro r w2 ⟨rfl,hb2⟩;have hX2:=hX.below hb2 hX.lt;have hl2:=hX2.lt;have x0:w2.cell? ⟨w.heap.size,0,none⟩=some (.slice A n c):=Zq hX2;have x1:w2.cell? ⟨w.heap.size,1,none⟩=some xB:=Zq hX2;have x2:w2.cell? ⟨w.heap.size,2,none⟩=some xC:=Zq hX2;have x3:w2.cell? ⟨w.heap.size,3,none⟩=some (.slice Q L cq):=Zq hX2;have x4:w2.cell? ⟨w.heap.size,4,none⟩=some xG:=Zq hX2;have x5:w2.cell? ⟨w.heap.size,5,none⟩=some xE:=Zq hX2;have HB2:=Zh (Zb HBB.out hb2);clear hb2 hX
   go_wp2_with fail
   with_reducible refine (HV2.out _).mono ?_
   rintro r w3 ⟨rfl,hb3⟩;have hX3:=hX2.below hb3 hX2.lt;have HB3:=Zh (Zb HB2.out hb3);have hl3:=hX3.lt;clear x0 x1 x2 x3 x4 x5 hb3 hX2 hl2;have x0:w3.cell? ⟨w.heap.size,0,none⟩=some (.slice A n c):=Zq hX3;have x1:w3.cell? ⟨w.heap.size,1,none⟩=some xB:=Zq hX3;have x2:w3.cell? ⟨w.heap.size,2,none⟩=some xC:=Zq hX3;have x3:w3.cell? ⟨w.heap.size,3,none⟩=some (.slice Q L cq):=Zq hX3;have x4:w3.cell? ⟨w.heap.size,4,none⟩=some xG:=Zq hX3;have x5:w3.cell? ⟨w.heap.size,5,none⟩=some xE:=Zq hX3;clear hX3
   go_wp2_with fail
   with_reducible refine (HV3.out _).mono ?_
   rintro r w4 ⟨rfl,hb4⟩;have HB4:=Zh (Zb HB3.out hb4);clear hb4
   go_wp2_with fail
   go_ret
   rw [HZ.out];exact ⟨rfl,HB4.out⟩
 have HV3:=Zh (fun V=>HVA.out b hb V);have HIR:=Zh (And.intro hv (And.intro ha hb));unfold inR at hv ha hb;obtain ⟨vn,rfl⟩:∃ vn:Nat,v=(vn:Int):=⟨v.toNat,by omega⟩;obtain ⟨an,rfl⟩:∃ vn:Nat,a=(vn:Int):=⟨a.toNat,by omega⟩;obtain ⟨bn,rfl⟩:∃ vn:Nat,b=(vn:Int):=⟨b.toNat,by omega⟩;have p1:(0:Int)≤(vn:Int):=by omega
 have p2:(0:Int)≤(an:Int):=by omega
 have p3:(0:Int)≤(bn:Int):=by omega
 have p4:(vn:Int)<(n:Int):=by omega
 have p5:(an:Int)<(n:Int):=by omega
 have p6:(bn:Int)<(n:Int):=by omega
 clear hv ha hb
 go_enter func78,ntmps78
 go_wp2_with fail
 (refine Qab ?_;intro w1 hw1)
 have HBB:=Zh (show Below w.heap.size w w1 by rw [hw1];exact Qag)
 have hX:Blk w1 w.heap.size 57 #[.slice A n c,xB,xC,.slice Q L cq,xG,xE]:=by rw [hw1];refine Blk.new' _ _ _ ?_;rfl
 clear hw1;with_reducible refine (HV1.out _).mono ?_
 rintro r w2 ⟨rfl,hb2⟩;have hX2:=hX.below hb2 hX.lt;have hl2:=hX2.lt;have x0:w2.cell? ⟨w.heap.size,0,none⟩=some (.slice A n c):=Zq hX2;have x1:w2.cell? ⟨w.heap.size,1,none⟩=some xB:=Zq hX2;have x2:w2.cell? ⟨w.heap.size,2,none⟩=some xC:=Zq hX2;have x3:w2.cell? ⟨w.heap.size,3,none⟩=some (.slice Q L cq):=Zq hX2;have x4:w2.cell? ⟨w.heap.size,4,none⟩=some xG:=Zq hX2;have x5:w2.cell? ⟨w.heap.size,5,none⟩=some xE:=Zq hX2;have HB2:=Zh (Zb HBB.out hb2);clear hb2 hX
 go_wp2_with fail
 with_reducible refine (HV2.out _).mono ?_
 rintro r w3 ⟨rfl,hb3⟩;have hX3:=hX2.below hb3 hX2.lt;have HB3:=Zh (Zb HB2.out hb3);have hl3:=hX3.lt;clear x0 x1 x2 x3 x4 x5 hb3 hX2 hl2;have x0:w3.cell? ⟨w.heap.size,0,none⟩=some (.slice A n c):=Zq hX3;have x1:w3.cell? ⟨w.heap.size,1,none⟩=some xB:=Zq hX3;have x2:w3.cell? ⟨w.heap.size,2,none⟩=some xC:=Zq hX3;have x3:w3.cell? ⟨w.heap.size,3,none⟩=some (.slice Q L cq):=Zq hX3;have x4:w3.cell? ⟨w.heap.size,4,none⟩=some xG:=Zq hX3;have x5:w3.cell? ⟨w.heap.size,5,none⟩=some xE:=Zq hX3
 go_wp2_with fail
 with_reducible refine (HV3.out _).mono ?_
 rintro r w4 ⟨rfl,hb4⟩;have hX4:=hX3.below hb4 hX3.lt;have HB4:=Zh (Zb HB3.out hb4);have HX4:=Zh hX4;clear x0 x1 x2 x3 x4 x5 hb4 hX3 hl3 hX4 HVA HVZ HV1 HV2 HV3
 go_wp2_with fail
 go_loopw [9,10] (fun ut ul W=>∃ j:Nat,j≤L∧ul=.int .i64 ((j:Int)+1)∧ut=.int .i64 ((Qjk ls (vn:Int) [(an:Int),(bn:Int)] j:Nat):Int)∧Below w.heap.size w W∧Blk W w.heap.size 57 #[.slice A n c,xB,xC,.slice Q L cq,xG,xE]) (fun _ ul _=>L+1-(intOf ul).toNat)
 case atStart=>exact ⟨0,Nat.zero_le _,by go_num,rfl,HB4.out,HX4.out⟩
 case round =>
  clear HX4 HB4;obtain ⟨j,hj,rfl,rfl,hbl,hX⟩:=hrel;have HB:=Zh hbl;have HX:=Zh hX;have hXl:=hX.lt;have x3:wr.cell? ⟨w.heap.size,3,none⟩=some (.slice Q L cq):=Zq hX
  by_cases hlt:j<L
  rotate_left
  · obtain rfl:j=L:=by omega
    have HZ:=Zh (show lvI n ls (vn:Int) (an:Int) (bn:Int)=((Qjk ls (vn:Int) [(an:Int),(bn:Int)] j:Nat):Int) by
     unfold lvI Qfy;rw [if_pos HIR.out,HLL.out])
    obtain ⟨tp,htp⟩:∃ tp,tp=Qjk ls (vn:Int) [(an:Int),(bn:Int)] j:=⟨_,rfl⟩;rw [←htp] at HZ ⊢;have e0:¬((j:Int)+1≤(j:Int)):=by omega
    clear hX hbl htp
    exact Kbh
  · obtain ⟨qb,qo,A1,n1,c1,l,rfl,hl,k0,k1,_,_⟩:=(HT.out.below hbl).at_ (i:=j) hlt
    have hlo:=HP.out.lvl l (Zm hl);obtain rfl:n=n1:=by rw [←k1.1];exact hlo.len.symm
    obtain ⟨lb,lo,zv,rfl,hzv,cv⟩:=k1.at_ (i:=vn) (by omega);obtain ⟨_,_,za,ea,hza,ca⟩:=k1.at_ (i:=an) (by omega)
    cases ea
    obtain ⟨_,_,zb,eb,hzb,cb⟩:=k1.at_ (i:=bn) (by omega)
    cases eb
    have HAP:=Zh (show Qdu ls j (vn:Int) [(an:Int),(bn:Int)]↔zv≠za∧zv≠zb from by
     constructor
     · rintro ⟨l',hl',g⟩
       rw [hl] at hl'
       exact Kcb
     · rintro ⟨g1,g2⟩
       refine ⟨l,hl,fun x hx=>?_⟩;rw [List.mem_cons,List.mem_cons] at hx
       rcases hx with rfl|rfl|hx
       · rw [Qat hzv,Qat hza];exact g1
       · rw [Qat hzv,Qat hzb];exact g2
       · cases hx)
    have e0:(j:Int)+1≤(L:Int):=by omega
    have e1:(j:Int)+1-1=(j:Int):=by omega
    have e2:(0:Int)≤(j:Int):=by omega
    have e3:(j:Int)<(L:Int):=by omega
    have wl:IntKind.i64.wrap (j:Int)=(j:Int):=IntWalk.i64_in _ (by omega);obtain ⟨tp,htp⟩:∃ tp,tp=Qjk ls (vn:Int) [(an:Int),(bn:Int)] j:=⟨_,rfl⟩;rw [←htp];have HTP:=Zh htp;clear hX hbl htp hlo hl k1 hzv hza hzb
    go_wp2_with fail
    refine wp_region_held_drew (S:=fun V=>V=wr.drew) (by kernel_rfl) rfl (fun _=>?_)
    by_cases h1:zv=za
    · have e4:(zv != za)=false:=by simp [h1]
      have HLN:=Zh (show Qjk ls (vn:Int) [(an:Int),(bn:Int)] (j+1)=tp by rw [HTP.out];exact Qoe (fun h=>(HAP.out.1 h).1 h1))
      clear h1;refine tz 0 43 ?_;refine tz 1 44 ?_;refine tz 2 45 ?_;refine tz 3 46 ?_;refine tz 4 47 ?_;refine tz 5 48 ?_;refine tz 6 49 ?_;refine tz 7 50 ?_;refine tz 8 51 ?_;refine tz 9 52 ?_;refine tw 10 53 ?_;refine tw 11 54 ?_;refine tw 12 55 ?_;refine tw 13 56 ?_;refine tw 14 57 ?_;refine tw 15 58 ?_;refine tw 16 59 ?_;refine tw 17 60 ?_;refine tw 18 61 ?_;refine tz 19 62 ?_;refine Zd ?_;obtain ⟨w9,hw9⟩:∃ W,W=wr.drew:=⟨_,rfl⟩;rw [←hw9];have HB9:=Zh (show Below w.heap.size w w9 by rw [hw9];exact HB.out.drew)
      have HX9:=Zh (show Blk w9 w.heap.size 57 #[.slice A n c,xB,xC,.slice (some ⟨qb,qo,none⟩) L cq,xG,xE] by rw [hw9];exact HX.out)
      exact Kbp
    · have e4:(zv != za)=true:=by simp [h1]
      by_cases h2:zv=zb
      · have e5:(zv != zb)=false:=by simp [h2]
        have HLN:=Zh (show Qjk ls (vn:Int) [(an:Int),(bn:Int)] (j+1)=tp by rw [HTP.out];exact Qoe (fun h=>(HAP.out.1 h).2 h2))
        clear h1 h2;refine tz 0 43 ?_;refine tz 1 44 ?_;refine tz 2 45 ?_;refine tz 3 46 ?_;refine tz 4 47 ?_;refine tz 5 48 ?_;refine tz 6 49 ?_;refine tz 7 50 ?_;refine tz 8 51 ?_;refine tz 9 52 ?_;refine tz 10 53 ?_;refine tz 11 54 ?_;refine tz 12 55 ?_;refine tz 13 56 ?_;refine tz 14 57 ?_;refine tz 15 58 ?_;refine tz 16 59 ?_;refine tz 17 60 ?_;refine tz 18 61 ?_;refine tz 19 62 ?_;refine Zd ?_;obtain ⟨w9,hw9⟩:∃ W,W=wr.drew:=⟨_,rfl⟩;rw [←hw9];have HB9:=Zh (show Below w.heap.size w w9 by rw [hw9];exact HB.out.drew)
        have HX9:=Zh (show Blk w9 w.heap.size 57 #[.slice A n c,xB,xC,.slice (some ⟨qb,qo,none⟩) L cq,xG,xE] by rw [hw9];exact HX.out)
        exact Kbp
      · have e5:(zv != zb)=true:=by simp [h2]
        have HLN:=Zh (show ((Qjk ls (vn:Int) [(an:Int),(bn:Int)] (j+1):Nat):Int)=(j:Int)+1 by rw [Quj (HAP.out.2 ⟨h1,h2⟩)];rfl)
        clear h1 h2;refine tz 0 43 ?_;refine tz 1 44 ?_;refine tz 2 45 ?_;refine tz 3 46 ?_;refine tz 4 47 ?_;refine tz 5 48 ?_;refine tz 6 49 ?_;refine tz 7 50 ?_;refine tz 8 51 ?_;refine tz 9 52 ?_;refine tz 10 53 ?_;refine tz 11 54 ?_;refine tz 12 55 ?_;refine tz 13 56 ?_;refine tz 14 57 ?_;refine tz 15 58 ?_;refine tz 16 59 ?_;refine tz 17 60 ?_;refine tz 18 61 ?_;refine tz 19 62 ?_;refine Zd ?_;obtain ⟨w9,hw9⟩:∃ W,W=wr.drew:=⟨_,rfl⟩;rw [←hw9];have HB9:=Zh (show Below w.heap.size w w9 by rw [hw9];exact HB.out.drew)
        have HX9:=Zh (show Blk w9 w.heap.size 57 #[.slice A n c,xB,xC,.slice (some ⟨qb,qo,none⟩) L cq,xG,xE] by rw [hw9];exact HX.out)
        exact Kbp
theorem Qha {l:List Int}{j:Nat}{x:Int} (h:l[j]?=some x):Qaf (l.take (j+1))=Qaf (l.take j) ++Qaf [x]:=by
 rw [Yf (Zs h).1,(Zs h).2,Qbr]
set_option maxHeartbeats 4000000 in
set_option maxRecDepth 20000 in
theorem Qwf (g:Nat)(N:Qak)(Q:Option Addr)(L cq n:Nat) (ls:List (List Int)) (w:World) (h:Qen w g N) (hN:Qas N) (hq:RdT w Q L ls) (hP:Qbc n ls) (hn:N.vs.length=n) :
 Calls prog 89 #[.pointer (some ⟨g,0,none⟩),.agg #[.slice Q L cq]] w fun e w'=>∃ o,e=.returned (.tuple #[.pointer (some ⟨o,0,none⟩),.nilIface])∧Qfw (msk w' (fun b=>w.heap.size≤b∧b<w'.heap.size)) o N.ar ls∧Below w.heap.size w w':=by
 have HG:=Zh h;have HN:=Zh hN;have HT:=Zh hq;have HP:=Zh hP;have HVN:=Zh hn;have hn4:n≤4096:=by rw [←hn];exact hN.lv
 have HM:=Zh hN.la;have l6:L≤6:=by rw [←hq.1];exact hP.l6
 clear h hN hq hP hn
 go_enter func89,ntmps89
 go_wp2_with fail
 (refine Qai ?_;intro w1 hw1)
 have hb1:Below w.heap.size w w1:=by rw [hw1];exact Qag
 have hQ:Blk w1 w.heap.size 132 #[.slice Q L cq]:=by rw [hw1];exact Qay
 have hzz1:w.heap.size+1≤w1.heap.size:=by rw [hw1];simp
 clear hw1
 have HSX:=Zh (show ∀ V,Below w1.heap.size w1 V→V.cell? ⟨w.heap.size,0,none⟩=some (.slice Q L cq) from fun V hV=>by
  have:=(hQ.below hV hQ.lt).cell 0
  simpa using this)
 refine wp_region_held_drew (S:=fun V=>Below w1.heap.size w1 V) (by kernel_rfl) (Zr _ _).drew (fun _=>?_);refine tz 0 14 ?_;refine tz 2 16 ?_;refine Zk 1 (fun K hK=>?_);go_simp;with_reducible refine (Qmo g N _ (HG.out.below (show Below w.heap.size w w1.drew from Qag))).mono ?_
 rintro e w' ⟨rfl,rfl⟩;rw [HVN.out]
 go_wp2_with fail
 refine hK.out _ _ (Zr _ _).drew (fun _=>?_);clear hK K;refine Zk 3 (fun K hK=>?_);go_simp;with_reducible refine (Qjj Q n L cq ls _ (HT.out.below (show Below w.heap.size w w1.drew from Qag)) HP.out hn4).mono ?_
 rintro e w2 ⟨rfl,hb2⟩;have hb12:Below w1.heap.size w1 w2:=Zb Qag hb2;clear hb2
 go_wp2_with fail
 refine hK.out _ _ hb12 (fun _=>?_);clear hK K;refine tz 4 6 ?_;refine Zd ?_;have hbw2:=Zb hb1 hb12
 go_wp2_with fail
 refine wp_region_held_drew (S:=fun V=>Below w1.heap.size w1 V) (by kernel_rfl) hb12.drew (fun _=>?_);refine tz 0 21 ?_;refine tz 2 23 ?_;refine tz 3 24 ?_;refine Zk 1 (fun K hK=>?_);go_simp;with_reducible refine (Qtz Q L cq ls _ (HT.out.below (show Below w.heap.size w w2.drew from Qag)) (by omega) (fun l hl=>by have:=(HP.out.lvl l hl).len;omega)).mono ?_
 rintro e w3 ⟨Q3,cq3,rfl,hq3,hq3a,hq3b,hb3⟩;have hb23:Below w2.heap.size w2 w3:=(Zr _ w2).drew.trans hb3;have hq3:RdT (msk w3 (fun b=>w2.heap.size≤b∧b<w3.heap.size)) Q3 L ls:=hq3;have hb13:Below w1.heap.size w1 w3:=Zb hb12 hb23;have hbw3:=Zb hbw2 hb23;clear hb3
 go_wp2_with fail
 refine hK.out _ _ hb13 (fun _=>?_);clear hK K;refine Zk 4 (fun K hK=>?_);go_simp;with_reducible refine (Qyw g N Q L cq n ls w3 (HG.out.below hbw3) HN.out (HT.out.below hbw3) HP.out HVN.out).mono ?_
 rintro e w4 ⟨G4,rfl,hg4,hb4⟩;have hb14:Below w1.heap.size w1 w4:=Zb hb13 hb4;have hbw4:=Zb hbw3 hb4
 go_wp2_with fail
 refine hK.out _ _ hb14 (fun _=>?_);clear hK K;refine tz 5 26 ?_;refine Zk 6 (fun K hK=>?_);go_simp;refine hK.out _ _ (Bel.alloc hb14) (fun _=>?_);clear hK K;refine tz 7 7 ?_;refine Zd ?_;obtain ⟨w5,hw5⟩:∃ w5,w5=w4.alloc (.cells #[.slice Q3 L cq3,.slice none 0 0,.slice none 0 0,.slice G4 L L,.slice none 0 0,.int .i64 0] 208):=⟨_,rfl⟩;rw [←hw5];have hb45:Below w4.heap.size w4 w5:=by rw [hw5];exact Qag
 have hO5:Blk w5 w4.heap.size 208 #[.slice Q3 L cq3,.slice none 0 0,.slice none 0 0,.slice G4 L L,.slice none 0 0,.int .i64 0]:=by rw [hw5];exact Blk.new _ _ _
 have hz5:w5.heap.size=w4.heap.size+1:=by rw [hw5];simp
 clear hw5 HSX hQ;have hz12:=hb12.size;have hz23:=hb23.size;have hz34:=hb4.size;have HQ4:=Zh (show RdT (msk w4 (fun b=>w.heap.size≤b∧b<w4.heap.size)) Q3 L ls from hq3.le (Le.trans (Qbb.msk (Qbb.below hb4 |>.mono (fun b hb=>hb))) (Qbe (fun b hb=>⟨by omega,by omega⟩))))
 have HG4:=Zh (show RdG (msk w4 (fun b=>w.heap.size≤b∧b<w4.heap.size)) G4 L (gatesOf N.ar ls) from hg4.le (Qbe (fun b hb=>⟨by omega,hb.2⟩)))
 have HCQ:=Zh (And.intro hq3a hq3b);clear hq3 hg4 hb4 hb23 hb12 hb13 hb14 hbw2 hbw3 hq3a hq3b
 go_wp2_with fail
 with_reducible refine (Qhq g N w5 (HG.out.below (Zb hbw4 hb45))).mono ?_
 rintro e w' ⟨rfl,rfl⟩;have hm:N.ar.length≤16384:=HM.out;generalize hMM:N.ar.length=M at *;have HML:=Zh hMM;clear hMM
 go_wp2_with fail
 go_loopw [30] (fun q W=>w4.heap.size+1≤W.heap.size∧Below w4.heap.size w4 W∧∃ (j:Nat) (F:Option Addr) (cF:Nat) (T:Option Addr) (cT:Nat),j≤M∧q=.int .i64 j∧Blk W w4.heap.size 208 #[.slice Q3 L cq3,.slice F j cF,.slice T j cT,.slice G4 L L,.slice none 0 0,.int .i64 0]∧Own W (w4.heap.size+1) 3 1 F j cF (Qaf ((N.ar.map (·.1)).take j))∧Own W (w4.heap.size+1) 3 1 T j cT (Qaf ((N.ar.map (·.2.1)).take j))∧Dj F T) (fun q _=>M-(intOf q).toNat)
 case atStart=>exact ⟨by omega,hb45,0,none,0,none,0,Nat.zero_le _,rfl,hO5,Own.nil _ _ _ _,Own.nil _ _ _ _,.inl rfl⟩
 case round =>
  clear hb45 hO5 hz5;obtain ⟨hzwr,hbwr,j,F,cF,T,cT,hj,rfl,hOwr,hoF,hoT,hdj⟩:=hrel
  by_cases hlt:j<M
  · obtain ⟨⟨x,y,z⟩,hx⟩:∃ x,N.ar[j]?=some x:=⟨_,Zg (by rw [HML.out];exact hlt)⟩
    have HNF:=Zh (Qha (l:=N.ar.map (·.1)) (j:=j) (x:=x) (by rw [Yt,hx];rfl));have HNT:=Zh (Qha (l:=N.ar.map (·.2.1)) (j:=j) (x:=y) (by rw [Yt,hx];rfl));have HFR:=Zh (show ∀ V,Below w4.heap.size w4 V→Calls prog 143 #[.pointer (some ⟨g,0,none⟩),.int .i64 j] V fun e w'=>e=.returned (.int .i64 x)∧V=w' from fun V hV=>Qhw g j N _ V (HG.out.below (Zb hbw4 hV)) hx)
    have HTO:=Zh (show ∀ V,Below w4.heap.size w4 V→Calls prog 144 #[.pointer (some ⟨g,0,none⟩),.int .i64 j] V fun e w'=>e=.returned (.int .i64 y)∧V=w' from fun V hV=>Qhs g j N _ V (HG.out.below (Zb hbw4 hV)) hx)
    have i1:(0:Int)≤(j:Int):=by omega
    have i2:(j:Int)<(M:Int):=by omega
    clear hx
    go_wp2_with fail
    refine wp_region_held_drew (S:=fun V=>Below w4.heap.size w4 V) (by kernel_rfl) hbwr.drew (fun _=>?_);refine tz 0 33 ?_;refine tz 1 34 ?_;refine tz 2 35 ?_;refine tz 3 36 ?_;refine tz 5 38 ?_;refine tz 6 39 ?_;refine wpAnyH_ready (rs:=[4,7]) (by kernel_rfl) (by simp) ?_;refine AllReadyH.cons (o:=_) rfl (fun K hK=>?_) (AllReadyH.cons (o:=_) rfl (fun K hK=>?_) AllReadyH.nil)
    focus
     obtain ⟨o0,o1,o2,o3,o4,o5⟩:=hOwr.six;go_simp;refine hK.out _ _ hbwr.drew (fun _=>?_);clear hK K o0 o1 o2 o3 o4 o5;refine Zk 7 (fun K hK=>?_);go_simp;with_reducible refine (HFR.out _ hbwr.drew).mono ?_
     rintro e w' ⟨rfl,rfl⟩
     go_wp2_with fail
     refine hK.out _ _ hbwr.drew (fun _=>?_);clear hK K;refine Zk 8 (fun K hK=>?_);go_simp;refine hK.out _ _ ((hbwr.alloc (by omega) _).drew) (fun _=>?_);clear hK K
    rotate_left
    focus
     go_simp;with_reducible refine (HFR.out _ hbwr.drew).mono ?_
     rintro e w' ⟨rfl,rfl⟩
     go_wp2_with fail
     refine hK.out _ _ hbwr.drew (fun _=>?_);clear hK K;refine wpAnyH_ready (rs:=[4,8]) (by kernel_rfl) (by simp) ?_;refine AllReadyH.cons (o:=_) rfl (fun K hK=>?_) (AllReadyH.cons (o:=_) rfl (fun K hK=>?_) AllReadyH.nil)
     focus
      obtain ⟨o0,o1,o2,o3,o4,o5⟩:=hOwr.six;go_simp;refine hK.out _ _ hbwr.drew (fun _=>?_);clear hK K o0 o1 o2 o3 o4 o5;refine Zk 8 (fun K hK=>?_);go_simp;refine hK.out _ _ ((hbwr.alloc (by omega) _).drew) (fun _=>?_);clear hK K
     rotate_left
     focus
      go_simp;refine hK.out _ _ ((hbwr.alloc (by omega) _).drew) (fun _=>?_);clear hK K;have o1:=fun ob=>(hOwr.alloc ob).six.2.1
      have o2:=fun ob=>(hOwr.alloc ob).six.2.2.1
      refine Zk 4 (fun K hK=>?_);go_simp;refine hK.out _ _ ((hbwr.alloc (by omega) _).drew) (fun _=>?_);clear hK K o1 o2
    all_goals
     obtain ⟨WA,hWA⟩:∃ WA,WA=(wr.alloc (.cells #[.int .i64 x] 3)).drew:=⟨_,rfl⟩;rw [←hWA];have hbA:Below wr.heap.size wr WA:=by rw [hWA];exact Qag
     have hrA:Rds WA 1 (some ⟨wr.heap.size,0,none⟩) 1 (Qaf [x]):=by rw [hWA];exact (Blk.new wr 3 (Qcs [x])).rds rfl
     clear hWA;have hoA:=hoF.below hbA;have hoB:=hoT.below hbA;have hOA:=hOwr.below hbA hOwr.lt;have hb4A:Below w4.heap.size w4 WA:=hbwr.trans (hbA.mono (by omega));have hszA:w4.heap.size+1≤WA.heap.size:=Yx hzwr hbA.size;refine Zk 9 (fun K hK=>?_);with_reducible refine Qaj (some 42) rfl rfl (.tmp 37) (.tmp 41) 61 rfl 3 _ 1 8 Qbs underlying61 rfl (by omega) rfl rfl hoA hrA (Qao _) (by omega) (by omega) (by omega) ?_
     intro F2 cF2 w' hown' hg hat;have hO':=hOA.grown hg (hoA.ne (by omega));have hoB':=hoB.far hg hdj.far;have hDJ:=hdj.next hoB hat;have hb4':Below w4.heap.size w4 w':=Zo hb4A hg (hoA.mono (by omega)) (by omega);have hz':=hg.size;clear hOA hoA hoB hrA hg hat hbA hb4A;refine hK.out _ _ hb4' (fun _=>?_);clear hK K;simp only [Act.put,Yi,Yj,Yk];refine tz 10 43 ?_;refine tz 11 44 ?_;obtain ⟨o0,o1,o2,o3,o4,o5⟩:=hO'.six;have of:=hO'.frozen 1;refine Zk 12 (fun K hK=>?_);go_simp;refine hK.out _ _ (hb4'.setCell (by simp) _) (fun _=>?_);clear hK K;refine Zd ?_;obtain ⟨W6,hwW6⟩:∃ W6,W6=w'.setCell ⟨w4.heap.size,1,none⟩ (.slice F2 (j+1) cF2):=⟨_,rfl⟩;rw [←hwW6];have hOW6:Blk W6 w4.heap.size 208 #[.slice Q3 L cq3,.slice F2 (j+1) cF2,.slice T j cT,.slice G4 L L,.slice none 0 0,.int .i64 0]:=by rw [hwW6];exact hO'.set_ 1 _
     have hoAW6:Own W6 (w4.heap.size+1) 3 1 F2 (j+1) cF2 (Qaf ((N.ar.map (·.1)).take (j+1))):=by rw [hwW6,HNF.out];exact hown'.far (Qaa _ _ _ _) (.inr (hown'.ne (by omega)))
     have hoBW6:=hoB'.far (Qaa w' w4.heap.size 1 (.slice F2 (j+1) cF2)) (.inr (hoB'.ne (by omega)));rw [←hwW6] at hoBW6;have hbW6:Below w4.heap.size w4 W6:=by rw [hwW6];exact hb4'.setCell (by simp) _
     have hzW6:w4.heap.size+1≤W6.heap.size:=by rw [hwW6];simp [World.setCell];omega
     clear hwW6 hO' hoB' hown' hb4' o0 o1 o2 o3 o4 o5 of hOwr hoF hoT hbwr
     go_wp2_with fail
     refine wp_region_held_drew (S:=fun V=>Below w4.heap.size w4 V) (by kernel_rfl) hbW6.drew (fun _=>?_);refine tz 0 45 ?_;refine tz 1 46 ?_;refine tz 2 47 ?_;refine tz 3 48 ?_;refine tz 5 50 ?_;refine tz 6 51 ?_;refine wpAnyH_ready (rs:=[4,7]) (by kernel_rfl) (by simp) ?_;refine AllReadyH.cons (o:=_) rfl (fun K hK=>?_) (AllReadyH.cons (o:=_) rfl (fun K hK=>?_) AllReadyH.nil)
     focus
      obtain ⟨o0,o1,o2,o3,o4,o5⟩:=hOW6.six;go_simp;refine hK.out _ _ hbW6.drew (fun _=>?_);clear hK K o0 o1 o2 o3 o4 o5;refine Zk 7 (fun K hK=>?_);go_simp;with_reducible refine (HTO.out _ hbW6.drew).mono ?_
      rintro e w' ⟨rfl,rfl⟩
      go_wp2_with fail
      refine hK.out _ _ hbW6.drew (fun _=>?_);clear hK K;refine Zk 8 (fun K hK=>?_);go_simp;refine hK.out _ _ ((hbW6.alloc (by omega) _).drew) (fun _=>?_);clear hK K
     rotate_left
     focus
      go_simp;with_reducible refine (HTO.out _ hbW6.drew).mono ?_
      rintro e w' ⟨rfl,rfl⟩
      go_wp2_with fail
      refine hK.out _ _ hbW6.drew (fun _=>?_);clear hK K;refine wpAnyH_ready (rs:=[4,8]) (by kernel_rfl) (by simp) ?_;refine AllReadyH.cons (o:=_) rfl (fun K hK=>?_) (AllReadyH.cons (o:=_) rfl (fun K hK=>?_) AllReadyH.nil)
      focus
       obtain ⟨o0,o1,o2,o3,o4,o5⟩:=hOW6.six;go_simp;refine hK.out _ _ hbW6.drew (fun _=>?_);clear hK K o0 o1 o2 o3 o4 o5;refine Zk 8 (fun K hK=>?_);go_simp;refine hK.out _ _ ((hbW6.alloc (by omega) _).drew) (fun _=>?_);clear hK K
      rotate_left
      focus
       go_simp;refine hK.out _ _ ((hbW6.alloc (by omega) _).drew) (fun _=>?_);clear hK K;have o1:=fun ob=>(hOW6.alloc ob).six.2.1
       have o2:=fun ob=>(hOW6.alloc ob).six.2.2.1
       refine Zk 4 (fun K hK=>?_);go_simp;refine hK.out _ _ ((hbW6.alloc (by omega) _).drew) (fun _=>?_);clear hK K o1 o2
     all_goals
      obtain ⟨WA,hWA⟩:∃ WA,WA=(W6.alloc (.cells #[.int .i64 y] 3)).drew:=⟨_,rfl⟩;rw [←hWA];have hbA:Below W6.heap.size W6 WA:=by rw [hWA];exact Qag
      have hrA:Rds WA 1 (some ⟨W6.heap.size,0,none⟩) 1 (Qaf [y]):=by rw [hWA];exact (Blk.new W6 3 (Qcs [y])).rds rfl
      clear hWA;have hoA:=hoBW6.below hbA;have hoB:=hoAW6.below hbA;have hOA:=hOW6.below hbA hOW6.lt;have hb4A:Below w4.heap.size w4 WA:=hbW6.trans (hbA.mono (by omega));have hszA:w4.heap.size+1≤WA.heap.size:=Yx hzW6 hbA.size;refine Zk 9 (fun K hK=>?_);with_reducible refine Qaj (some 54) rfl rfl (.tmp 49) (.tmp 53) 61 rfl 3 _ 1 8 Qbs underlying61 rfl (by omega) rfl rfl hoA hrA (Qao _) (by omega) (by omega) (by omega) ?_
      intro T2 cT2 w' hown' hg hat;have hO':=hOA.grown hg (hoA.ne (by omega));have hoB':=hoB.far hg hDJ.symm.far;have hDJ2:=hDJ.symm.next hoB hat;have hb4':Below w4.heap.size w4 w':=Zo hb4A hg (hoA.mono (by omega)) (by omega);have hz':=hg.size;clear hOA hoA hoB hrA hg hat hbA hb4A;refine hK.out _ _ hb4' (fun _=>?_);clear hK K;simp only [Act.put,Yi,Yj,Yk];refine tz 10 55 ?_;refine tz 11 56 ?_;obtain ⟨o0,o1,o2,o3,o4,o5⟩:=hO'.six;have of:=hO'.frozen 2;refine Zk 12 (fun K hK=>?_);go_simp;refine hK.out _ _ (hb4'.setCell (by simp) _) (fun _=>?_);clear hK K;refine Zd ?_;obtain ⟨W7,hwW7⟩:∃ W7,W7=w'.setCell ⟨w4.heap.size,2,none⟩ (.slice T2 (j+1) cT2):=⟨_,rfl⟩;rw [←hwW7];have hOW7:Blk W7 w4.heap.size 208 #[.slice Q3 L cq3,.slice F2 (j+1) cF2,.slice T2 (j+1) cT2,.slice G4 L L,.slice none 0 0,.int .i64 0]:=by rw [hwW7];exact hO'.set_ 2 _
      have hoAW7:Own W7 (w4.heap.size+1) 3 1 T2 (j+1) cT2 (Qaf ((N.ar.map (·.2.1)).take (j+1))):=by rw [hwW7,HNT.out];exact hown'.far (Qaa _ _ _ _) (.inr (hown'.ne (by omega)))
      have hoBW7:=hoB'.far (Qaa w' w4.heap.size 2 (.slice T2 (j+1) cT2)) (.inr (hoB'.ne (by omega)));rw [←hwW7] at hoBW7;have hbW7:Below w4.heap.size w4 W7:=by rw [hwW7];exact hb4'.setCell (by simp) _
      have hzW7:w4.heap.size+1≤W7.heap.size:=by rw [hwW7];simp [World.setCell];omega
      clear hwW7 hO' hoB' hown' hb4' o0 o1 o2 o3 o4 o5 of hOW6 hoBW6 hoAW6 hbW6
      go_wp2_with fail
      go_roundw
      case rel=>exact ⟨hzW7,hbW7,j+1,F2,cF2,T2,cT2,by omega,by go_num,hOW7,hoBW7,hoAW7,hDJ2.symm⟩
      case measure=>simp [intOf];omega
  · obtain rfl:M=j:=by omega
    rw [Ye (by rw [List.length_map,HML.out];exact Zn _)] at hoF hoT;have HOF:=Zh hoF;have HOT:=Zh hoT;obtain ⟨o0,o1,o2,o3,o4,o5⟩:=hOwr.six;obtain ⟨wo,hwo⟩:∃ wo,wo=wr:=⟨_,rfl⟩;subst hwo;have hsA0:Qca ((gatesOf N.ar ls).take 0)=0:=by simp [Qca]
    have HS0:=Zh (show Blk wo w4.heap.size 208 #[.slice Q3 L cq3,.slice F M cF,.slice T M cT,.slice G4 L L,.slice none 0 0,.int .i64 ((Qca ((gatesOf N.ar ls).take 0):Nat):Int)] by rw [hsA0];exact hOwr)
    clear hoF hoT hdj hsA0
    go_wp2_with fail
    clear o0 o1 o2 o3 o4 o5
    go_loopw [63] (fun q W=>wo.heap.size≤W.heap.size∧Below w4.heap.size w4 W∧Qbb (fun b=>b≠w4.heap.size∧b<wo.heap.size) wo W∧∃ (i:Nat) (S:Option Addr) (cS:Nat) (xs:List Value),i≤L∧q=.int .i64 i∧Blk W w4.heap.size 208 #[.slice Q3 L cq3,.slice F M cF,.slice T M cT,.slice G4 L L,.slice S i cS,.int .i64 ((Qca ((gatesOf N.ar ls).take i):Nat):Int)]∧RwL W wo.heap.size S i cS xs ((Qvw (gatesOf N.ar ls)).take i)) (fun q _=>L-(intOf q).toNat)
    case atStart=>exact ⟨Zn _,hbwr,Qbb.refl _ _,0,none,0,[],Nat.zero_le _,rfl,HS0.out,by simpa using RwL.nil _ _⟩
    case round =>
     clear hbwr hOwr HS0;obtain ⟨hzr,hbr,hkr,i,S,cS,xs,hi,rfl,hO,hRw⟩:=hrel
     by_cases hlt2:i<L
     · obtain ⟨row,gb,go_,Ag,ng,cg,hrow,rfl,hcg,hrc,hng,hcg2⟩:=(HG4.out.le (Qbd _ _)).at_ hlt2
       obtain ⟨l,hl,hrowl⟩:∃ l,ls[i]?=some l∧row=gateRow N.ar l:=by
        unfold gatesOf at hrow;rw [Yt] at hrow
        cases e:ls[i]? with
        | none=>rw [e] at hrow;cases hrow
        | some l=>rw [e] at hrow;cases hrow;exact ⟨l,rfl,rfl⟩
       have hlo:=HP.out.lvl l (Zm hl)
       have hnn:ng≤4096:=by
        rw [←hrc.1,hrowl,Qau];have:=Qcm (l:=l) (n:=(n:Int)) (fun x hx=>hlo.hi x hx) (by omega);omega
       have hcg':=Zc hbr (Zn _) hcg;have HSB:=Zh (show ∀ k,Qdy (row.take k)≤4096*268435456 from fun k=>by rw [hrowl];exact Qzx (by rw [HML.out];exact HM.out) hlo hn4)
       have HCB:=Zh (show ∀ (c:Nat) (x:Qam),row[c]?=some x→x.1.length≤16384∧x.2.length≤16384 from fun c x hx=>by
        have h0:=HM.out;rw [hrowl] at hx;have:=Qbn hx;rw [HML.out] at this;omega)
       have hsA:=sumA_le (ar:=N.ar) (ls:=ls) (i:=i) (by rw [HML.out];exact HM.out) HP.out hn4;have HSN:=Zh (Qdb hrow);have HSG:=Zh (Qqa hrow);have HRC:=Zh hrc;have HRL:=Zh hrc.1;generalize hss:Qca ((gatesOf N.ar ls).take i)=sA at *;clear hss;have hmk:=Qdo ng (by omega);have i1:(0:Int)≤(i:Int):=by omega
       have i2:(i:Int)<(L:Int):=by omega
       obtain ⟨wi,hwi⟩:∃ wi,wi=wr:=⟨_,rfl⟩;subst hwi;clear hrow hcg hrc hng hlo hl hrowl
       go_wp2_with fail
       (refine Qai ?_;intro w7 hw7)
       have hb7:Below wi.heap.size wi w7:=by rw [hw7];exact Qag
       have hB7:Blk w7 wi.heap.size 3 (Qcs ((Qhx sA row).take 0 ++List.replicate (ng-0) 0)):=by rw [hw7,List.take_zero,List.nil_append,Nat.sub_zero,←Qct];exact Blk.new _ _ _
       have hz7:wi.heap.size+1=w7.heap.size:=by rw [hw7];simp
       clear hw7 hmk;have hO7:=hO.below hb7 hO.lt;have hz4i:=hO.lt
       go_loopw [72] (fun q W=>wi.heap.size+1≤W.heap.size∧Below w4.heap.size w4 W∧Qbb (fun b=>b≠w4.heap.size∧b<wi.heap.size) wi W∧∃ k:Nat,k≤ng∧q=.int .i64 k∧Blk W w4.heap.size 208 #[.slice Q3 L cq3,.slice F M cF,.slice T M cT,.slice (some ⟨gb,go_,none⟩) L L,.slice S i cS,.int .i64 ((sA+Qdy (row.take k):Nat):Int)]∧Blk W wi.heap.size 3 (Qcs ((Qhx sA row).take k ++List.replicate (ng-k) 0))) (fun q _=>ng-(intOf q).toNat)
       case atStart=>exact ⟨by omega,hbr.trans (hb7.mono (by omega)),Qbb.below hb7,0,Nat.zero_le _,rfl,by simpa [Qdy] using hO7,hB7⟩
       case round =>
        clear hB7 hO7 hz7 hb7;obtain ⟨hzk,hbk,hkk,k,hk,rfl,hOk,hBk⟩:=hrel
        by_cases hlt3:k<ng
        · obtain ⟨x,gb',go',A1,n1,c1,A2,n2,c2,hx,eg,cc1,hr1,cc2,hr2,_⟩:=HRC.out.at_ hlt3
          subst eg;have hb1:=HCB.out k x hx;have hn1:n1≤16384:=by rw [←hr1.1];exact hb1.1
          have hn2:n2≤16384:=by rw [←hr2.1];exact hb1.2
          have HSZ:=Zh (show Qdy (row.take (k+1))=Qdy (row.take k)+n1*n2 by
           rw [Qcz hx];unfold szG;rw [hr1.1,hr2.1])
          have hP:n1*n2≤268435456:=Yx (Nat.mul_le_mul hn1 hn2) (by omega);have hsk:=HSB.out k;have cc1':=Zc hbk (Zn _) cc1;have cc2':=Zc hbk (Zn _) cc2;have HSTN:=Zh (Qvc (s:=sA) (row:=row) (j:=k) (by rw [HRL.out];exact hlt3));rw [HRL.out] at HSTN;obtain ⟨v0,hv0⟩:∃ v,((Qhx sA row).take k ++List.replicate (ng-k) (0:Int))[k]?=some v:=⟨_,Zg (by rw [Yp,Yw,Qfl,HRL.out,List.length_replicate];omega)⟩;have cb:=hBk.cellI hv0;have cbf:=hBk.frozen k;have e1:(n1:Int)*(n2:Int)=((n1*n2:Nat):Int):=by simp
          generalize hPP:n1*n2=P at *;generalize hKK:Qdy (row.take k)=K at *;clear hPP hKK;have HSTN2:=HSTN;clear HSTN;obtain ⟨Z,hZ⟩:∃ Z,Z=sA+K:=⟨_,rfl⟩;rw [←hZ] at HSTN2 hOk;have hZb:Z≤7*(4096*268435456):=by omega
          have HZ:=Zh hZ;clear hZ;have e2:IntKind.i64.wrap (P:Int)=(P:Int):=IntWalk.i64_in _ (by omega);have e3:IntKind.i64.wrap ((Z:Int)+(P:Int))=(Z:Int)+(P:Int):=IntWalk.i64_in _ (by omega);have HB2:=Zh (hBk.setI HSTN2.out);have j1:(0:Int)≤(k:Int):=by omega
          have j2:(k:Int)<(ng:Int):=by omega
          obtain ⟨W8,hW8⟩:∃ W8,W8=(wr.setCell ⟨wi.heap.size,k,none⟩ (.int .i64 (Z:Int))).alloc (.cells #[.slice A1 n1 c1,.slice A2 n2 c2] 135):=⟨_,rfl⟩;have hX8:Blk W8 wr.heap.size 135 #[.slice A1 n1 c1,.slice A2 n2 c2]:=by rw [hW8];exact Blk.new' _ _ _ (by simp [World.setCell])
          have hO8:Blk W8 w4.heap.size 208 #[.slice Q3 L cq3,.slice F M cF,.slice T M cT,.slice (some ⟨gb,go_,none⟩) L L,.slice S i cS,.int .i64 (Z:Int)]:=by rw [hW8];exact (hOk.far_ (by omega) _).alloc _
          have hB8:Blk W8 wi.heap.size 3 (Qcs ((Qhx sA row).take (k+1) ++List.replicate (ng-(k+1)) 0)):=by rw [hW8];exact HB2.out.alloc _
          have hb8:Below w4.heap.size w4 W8:=by rw [hW8];exact (hbk.setCell (by simp only;omega) _).alloc (by simp [World.setCell];omega) _
          have hk8:Qbb (fun b=>b≠w4.heap.size∧b<wi.heap.size) wi W8:=by
           have hset:Qbb (fun b=>b≠w4.heap.size∧b<wi.heap.size) wr (wr.setCell ⟨wi.heap.size,k,none⟩ (.int .i64 (Z:Int))):=Qbb.set _ _ _ _ (fun hG=>by omega);have hall:Qbb (fun b=>b≠w4.heap.size∧b<wi.heap.size) (wr.setCell ⟨wi.heap.size,k,none⟩ (.int .i64 (Z:Int))) W8:=by rw [hW8];exact Qbb.below ((Zr _ _).alloc (Zn _) _)
           exact (hkk.trans hset (by omega)).trans hall (by simp [World.setCell];omega)
          have hz8:wi.heap.size+1≤W8.heap.size:=by rw [hW8];simp [World.setCell];omega
          have HW8:=Zh hW8;have HX8:=Zh hX8;have o5a:=hOk.six.2.2.2.2.2;have zb:=hBk.lt;have zo:=hOk.lt;clear hx hr1 hr2 cc1 cc2 hW8 hOk hBk hv0 hbk hkk HB2 hX8
          go_wp2_with fail
          rw [←HW8.out];clear o5a zb zo;have hX8:=HX8.out;have hlt8:=hX8.lt;have HSX:=Zh (show ∀ V,Blk V wr.heap.size 135 #[.slice A1 n1 c1,.slice A2 n2 c2]→V.cell? ⟨wr.heap.size,0,none⟩=some (.slice A1 n1 c1)∧V.cell? ⟨wr.heap.size,1,none⟩=some (.slice A2 n2 c2) from fun V hV=>⟨hV.two.1,hV.two.2.1⟩)
          refine wp_region_held_drew (S:=fun V=>Blk V wr.heap.size 135 #[.slice A1 n1 c1,.slice A2 n2 c2]) (by kernel_rfl) hX8.drew (fun _=>?_);refine tz 0 84 ?_;refine tz 1 85 ?_;refine tz 2 86 ?_;refine tz 4 88 ?_;refine tz 5 89 ?_;refine tz 6 90 ?_;refine tz 7 91 ?_;refine tz 8 92 ?_;refine tz 9 93 ?_;refine tz 10 94 ?_;obtain ⟨o0,o1,o2,o3,o4,o5⟩:=hO8.six;refine Zk 3 (fun K hK=>?_);go_simp;refine hK.out _ _ hX8.drew (fun _=>?_);clear hK;refine tz 11 95 ?_;refine tz 12 96 ?_;refine tz 13 97 ?_;have of:=hO8.frozen 5;refine Zk 14 (fun K hK=>?_);go_simp;refine hK.out _ _ (hX8.far_ (by omega) _) (fun _=>?_);clear hK;refine Zd ?_;have HO9:=Zh (show Blk ((W8.setCell ⟨w4.heap.size,5,none⟩ (.int .i64 ((Z:Int)+(P:Int)))).drew) w4.heap.size 208 #[.slice Q3 L cq3,.slice F M cF,.slice T M cT,.slice (some ⟨gb,go_,none⟩) L L,.slice S i cS,.int .i64 ((Z:Int)+(P:Int))] from hO8.set_ 5 _)
          have HB9:=Zh (hB8.far_ (b:=w4.heap.size) (o:=5) (by omega) (.int .i64 ((Z:Int)+(P:Int))));have HE9:=Zh (show (((sA+Qdy (row.take (k+1)):Nat)):Int)=(Z:Int)+(P:Int) by have:=HSZ.out;have:=HZ.out;omega)
          have HK9:=Zh (hk8.trans (Qbb.set W8 w4.heap.size 5 (.int .i64 ((Z:Int)+(P:Int))) (fun hG=>hG.1 rfl)) (by omega));have HL9:=Zh (hb8.setCell (p:=⟨w4.heap.size,5,none⟩) (by simp) (.int .i64 ((Z:Int)+(P:Int))));clear hO8 hB8 hk8 hb8 o0 o1 o2 o3 o4 o5 of hX8
          go_wp2_with fail
          go_roundw
          case rel=>exact ⟨by simp [World.setCell];omega,HL9.out.drew,HK9.out,k+1,by omega,by go_num,by rw [HE9.out];exact HO9.out,HB9.out⟩
          case measure=>simp [intOf];omega
        · obtain rfl:ng=k:=by omega
          rw [Yy,List.replicate_zero,List.append_nil,Ye (by rw [Qfl,HRL.out];exact Zn _)] at hBk;rw [Ye (by rw [HRL.out];exact Zn _)] at hOk;have hRk:=hRw.keep (by omega) (fun b h1 h2=>hkk b ⟨by omega,h2⟩ h2);have hSl:∀ b,Qac S=some b→b<wi.heap.size:=fun b hb=>(hRw.1.lt b hb).2
          obtain ⟨W1,hW1⟩:∃ W1,W1=wr.alloc (.cells #[.slice (some ⟨wi.heap.size,0,none⟩) ng ng] 61):=⟨_,rfl⟩;have hbA:Below wr.heap.size wr W1:=by rw [hW1];exact Qag
          have hRA:=hRk.below hbA;have hOA:=hOk.below hbA hOk.lt;have hrA:Rds W1 1 (some ⟨wr.heap.size,0,none⟩) 1 [.slice (some ⟨wi.heap.size,0,none⟩) ng ng]:=by rw [hW1];exact (Blk.new wr 61 #[.slice (some ⟨wi.heap.size,0,none⟩) ng ng]).rds rfl
          have hrI:RdI W1 (some ⟨wi.heap.size,0,none⟩) ng (Qhx sA row):=(hBk.below hbA hBk.lt).rdI (by rw [Qfl];exact HRL.out);have hLt:=hBk.lt;have hbA4:Below w4.heap.size w4 W1:=hbk.trans (hbA.mono (by omega));have hszA:wo.heap.size≤W1.heap.size:=by have:=hbA.size;omega
          have hzA:=hbA.size;have hKA:Qbb (fun b=>b≠w4.heap.size∧b<wo.heap.size) wo W1:=(hkr.trans (hkk.mono (fun b hb=>⟨hb.1,by omega⟩)) (by omega)).trans ((Qbb.below hbA).mono (fun b hb=>hb)) (by omega);have hoS:=hRA.1;obtain ⟨o0,o1,o2,o3,o4,o5⟩:=hOk.six;have zo:=hOk.lt;have HSNN:=Zh (show ((Qca ((gatesOf N.ar ls).take (i+1)):Nat):Int)=((sA+Qdy row:Nat):Int) by rw [HSN.out])
          have HW1:=Zh hW1;clear hBk hRk hW1 hRw hO hkk hkr hbk hbr
          go_wp2_with (at_builtin;rw [←HW1.out];with_reducible refine Qan rfl (.tmp 103) (.tmp 105) 27 rfl 61 _ 1 24 Qgy underlying27 rfl (by omega) rfl rfl hoS hrA (Qck _ _ _) (by omega) (by omega) (by omega) ?_)
          intro A' c' w' hown' hg hat;have hO':=hOA.grown hg (hoS.ne (by omega));have hb4':Below w4.heap.size w4 w':=Zo hbA4 hg (hoS.mono (by omega)) (by omega);have hz':=hg.size
          have HR':=Zh ((hRA.push hown' hg hat hrI (fun q hq=>by
           have e:=Qhb hq;subst e;exact ⟨by omega,by omega,fun e=>by have:=hSl _ e;omega⟩) (Zn _) (by omega)).far (Qaa w' w4.heap.size 4 (.slice A' (i+1) c')) (by omega))
          have HK':=Zh ((hKA.trans (Qbb.grown hg (fun b hb e=>by have:=(hoS.lt b e).1;omega)) (by omega)).trans (Qbb.set w' w4.heap.size 4 (.slice A' (i+1) c') (fun hG=>hG.1 rfl)) (by omega));have HO':=Zh (show Blk (w'.setCell ⟨w4.heap.size,4,none⟩ (.slice A' (i+1) c')) w4.heap.size 208 #[.slice Q3 L cq3,.slice F M cF,.slice T M cT,.slice (some ⟨gb,go_,none⟩) L L,.slice A' (i+1) c',.int .i64 ((Qca ((gatesOf N.ar ls).take (i+1)):Nat):Int)] from by rw [HSNN.out];exact hO'.set_ 4 _)
          have HL':=Zh (hb4'.setCell (p:=⟨w4.heap.size,4,none⟩) (by simp) (.slice A' (i+1) c'));obtain ⟨_,_,_,_,o4',_⟩:=hO'.six;have of':=hO'.frozen 4;clear hRA hOA hrA hrI hbA4 hKA hoS o0 o1 o2 o3 o4 o5 hown' hg hat hO' hb4' hbA
          go_wp2_with fail
          go_roundw
          case rel=>exact ⟨by simp [World.setCell];omega,HL'.out,HK'.out,i+1,A',c',_,by omega,by go_num,HO'.out,by rw [Yf (Zs HSG.out).1,(Zs HSG.out).2];exact HR'.out⟩
          case measure=>simp [intOf];omega
     · obtain rfl:L=i:=by omega
       have hgl:(gatesOf N.ar ls).length=L:=by simp [gatesOf];exact HT.out.1
       rw [Ye (by rw [Ral,hgl];exact Zn _)] at hRw;rw [Ye (by rw [hgl];exact Zn _)] at hO;have hz4:=hbw4.size;have hzo:=hO.lt
       have HOV:=Zh (show Qfw (msk wr (fun b=>w.heap.size≤b∧b<wr.heap.size)) w4.heap.size N.ar ls from by
        have hk4:Le (msk w4 (fun b=>w.heap.size≤b∧b<w4.heap.size)) (msk wr (fun b=>w.heap.size≤b∧b<wr.heap.size)) :=
         Le.trans (Qbb.msk (W':=wr) (fun b hb _=>hbr.block b hb.2)) (Qbe (fun b hb=>⟨hb.1,by omega⟩))
        have own:∀ (A:Option Addr) (c:Nat) (l:List Int),Own wo (w4.heap.size+1) 3 1 A M c (Qaf l)→RdI (msk wr (fun b=>w.heap.size≤b∧b<wr.heap.size)) A M l:=fun A c l ho =>
         (ho.rds.rdI.keepB (fun b hb=>hkr b ⟨by have:=(ho.lt b hb).1;omega,(ho.lt b hb).2⟩ (ho.lt b hb).2)).msk (fun b hb=>⟨by have:=(ho.lt b hb).1;omega,by have:=(ho.lt b hb).2;omega⟩)
        obtain ⟨o0,o1,o2,o3,o4,o5⟩:=hO.six;have hc:∀ {k:Nat} {v:Value},wr.cell? ⟨w4.heap.size,k,none⟩=some v→(msk wr (fun b=>w.heap.size≤b∧b<wr.heap.size)).cell? ⟨w4.heap.size,k,none⟩=some v:=fun h=>Qal.2 ⟨⟨by omega,by omega⟩,h⟩
        exact ⟨_,_,_,_,_,_,_,_,_,_,_,_,hc o0,hc o1,hc o2,hc o3,hc o4,hc o5,HQ4.out.le hk4,own _ _ _ HOF.out,own _ _ _ HOT.out,HG4.out.le hk4,hRw.rdM (fun b h1 h2=>⟨by omega,h2⟩),HCQ.out⟩)
       have HBF:=Zh (hbw4.trans (hbr.mono (by omega)));clear hO hRw hbr hkr
       go_wp2_with fail
       go_ret2
       exact ⟨_,rfl,HOV.out,HBF.out⟩
end Go.Proofs.YtdheeddnkdhfeaaGreatDoor
