/- Parts of the proof: AsB. -/
import Derived.Test.YteaoiabikjnkeaaGreatDoorM1
import Derived.Test.YteaoiabikjnkeaaGreatDoorM28
import Derived.Test.YteaoiabikjnkeaaGreatDoorM33
namespace Go.Proofs.YteaoiabikjnkeaaGreatDoor
open Go.RowKit
attribute [local go_sem ↓] Go.wp_at_zero Go.wp_at_succ
structure OvD (w:World) (Q G AE:Option Addr) (L S:Nat) (N:Qao) (ls:List (List Int)) (EL:List Ent):Prop where
 q:RdT w Q L ls
 g:RdG w G L (Qae N.ar ls)
 e:Rds w 4 AE S (Qej EL)
 len:EL.length=S
 sum:S=Qbx (Qae N.ar ls)
 ent:EntP N ls EL
 s9:S≤1000000000
theorem OvD.below {w w':World}{Q G AE:Option Addr}{L S:Nat}{N:Qao} {ls:List (List Int)} {EL:List Ent} (h:OvD w Q G AE L S N ls EL) (hb:Below w.heap.size w w'):OvD w' Q G AE L S N ls EL :=
 ⟨h.q.below hb,h.g.le (Le.below hb),h.e.below hb,h.len,h.sum,h.ent,h.s9⟩
section
variable (A B C Q G AE:Option Addr) (n m k c d e L cq cg S ce:Nat) (xA xB xC:Value) (N:Qao) (ls:List (List Int)) (EL:List Ent)
set_option maxHeartbeats 1000000 in
theorem Qrn (lv f t:Int)(w:World)(h:Qbv w A B C n m k N)(hok:Qau N)(hP:Qay N.vs.length ls)(hO:OvD w Q G AE L S N ls EL)(hn:enF N ls lv f<0∨leF N ls lv t≠enF N ls lv f) :
 Calls Tryz.prog 48 #[.agg #[.slice A n c,.slice B m d,.slice C k e],.agg #[xA,xB,xC,.slice Q L cq,.slice G L cg,.slice AE S ce],.int .i64 lv,.int .i64 f,.int .i64 t] w fun r w'=>r=.returned (.int .i64 (-1))∧Below w.heap.size w w':=by
 have HEN:=Zh (fun V (hV:Below w.heap.size w V)=>Qhn A B C Q n m k c d e L cq N ls lv f V (h.below hV) hok (hO.q.below hV) hP);have HLE:=Zh (fun V (hV:Below w.heap.size w V)=>Qhy A B C Q n m k c d e L cq N ls lv t V (h.below hV) hok (hO.q.below hV) hP);clear h hok hP hO
 go_enter Tryz.func48,Tryz.ntmps48
 go_wp2_with fail
 (refine Qad ?_; intro w1 hw1)
 have HB1:=Zh (show Below w.heap.size w w1 by rw [hw1]; exact Qah)
 have hX:Blk w1 w.heap.size 26 #[.slice A n c,.slice B m d,.slice C k e]:=by rw [hw1]; exact Qba
 have hY:Blk w1 (w.heap.size+1) 40 #[xA,xB,xC,.slice Q L cq,.slice G L cg,.slice AE S ce]:=by rw [hw1]; exact Qba
 clear hw1;with_reducible refine (HEN.out w1 HB1.out).mono ?_
 rintro r w2 ⟨rfl,hb2⟩;have hX2:=hX.below hb2 hX.lt;have hY2:=hY.below hb2 hY.lt;have HB2:=Zh (Zb HB1.out hb2);clear hb2 hX hY HEN;obtain ⟨x0,x1,x2⟩:=hX2.three;have y0:w2.cell? ⟨w.heap.size+1,3,none⟩=some (.slice Q L cq):=by rw [hY2.cell]; rfl
 obtain ⟨ev,hev⟩:∃ ev,ev=enF N ls lv f:=⟨_,rfl⟩;rw [←hev] at hn ⊢
 by_cases h0:ev<0
 · clear hn hev HLE x0 x1 x2 y0 hX2 hY2
   go_wp2_with fail
   go_ret
   exact ⟨rfl,HB2.out⟩
 · have h1:leF N ls lv t≠ev:=hn.resolve_left h0
   clear hn hev
   go_wp2_with fail
   with_reducible refine (HLE.out w2 HB2.out).mono ?_
   rintro r w3 ⟨rfl,hb3⟩;have HB3:=Zh (Zb HB2.out hb3);clear hb3 HLE x0 x1 x2 y0 hX2 hY2;obtain ⟨lw,hlw⟩:∃ lw,lw=leF N ls lv t:=⟨_,rfl⟩;rw [←hlw] at h1 ⊢;clear hlw;have h2:(lw != ev)=true:=by simpa using h1
   go_wp2_with fail
   go_ret
   exact ⟨rfl,HB3.out⟩
set_option maxHeartbeats 2000000 in
theorem Qqk (j a b cc p q kk:Nat)(l:List Int)(x:Qan)(w:World)(h:Qbv w A B C n m k N)(hok:Qau N)(hP:Qay N.vs.length ls)(hO:OvD w Q G AE L S N ls EL) (hl:ls[j]?=some l) (hx:(Qaf N.ar l)[cc]?=some x) (he:enF N ls ((j:Int)+1) (a:Int)=(cc:Int)) (hf:leF N ls ((j:Int)+1) (b:Int)=(cc:Int))
 (hp:plI x.1 (a:Int)=(p:Int)) (hq:plI x.2 (b:Int)=(q:Int)) (hk:EL[kk]?=some (j,cc,p,q)) (hu:∀ i f,i<kk→EL[i]?=some f→f≠(j,cc,p,q)) :
 Calls Tryz.prog 48 #[.agg #[.slice A n c,.slice B m d,.slice C k e],.agg #[xA,xB,xC,.slice Q L cq,.slice G L cg,.slice AE S ce],.int .i64 ((j:Int)+1),.int .i64 a,.int .i64 b] w fun r w'=>r=.returned (.int .i64 kk)∧Below w.heap.size w w':=by
 have hL6:L≤6:=by rw [←hO.q.1]; exact hP.l6
 have hgl:=Qbl hx;have hla:=hok.la
 have hcc:cc≤1000000:=by
  have h1:=(Zs hx).1;rw [Qar] at h1;have:=Qch (l:=l) (n:=(N.vs.length:Int)) (fun x hx=>(hP.lvl l (Zm hl)).hi x hx) (by omega);have:=hok.lv;omega
 have HEN:=Zh (fun V (hV:Below w.heap.size w V)=>he ▸ Qhn A B C Q n m k c d e L cq N ls ((j:Int)+1) a V (h.below hV) hok (hO.q.below hV) hP);have HLE:=Zh (fun V (hV:Below w.heap.size w V)=>hf ▸ Qhy A B C Q n m k c d e L cq N ls ((j:Int)+1) b V (h.below hV) hok (hO.q.below hV) hP);have HGA:=Zh (fun V (hV:Below w.heap.size w V)=>Qpa xA xB xC (.slice Q L cq) (.slice AE S ce) G L cg j cc N.ar ls l x V (hO.g.le (Le.below hV)) hl hx (by omega) hcc);have HAT:=Zh (fun V (hV:Below w.heap.size w V)=>Qvh xA xB xC (.slice Q L cq) (.slice G L cg) AE S ce kk j cc p q EL V (hO.e.below hV) hO.len hO.s9 hk hu);have HPI:=Zh (fun (A1:Option Addr) (n1 c1:Nat) V (hV:RdI V A1 n1 x.1)=>hp ▸ Qeb A1 n1 c1 x.1 (a:Int) V hV (by rw [←hV.1]; omega));have HPO:=Zh (fun (A1:Option Addr) (n1 c1:Nat) V (hV:RdI V A1 n1 x.2)=>hq ▸ Qeb A1 n1 c1 x.2 (b:Int) V hV (by rw [←hV.1]; omega));clear h hok hP hO hl hx he hf hp hq hk hu hgl hla hcc
 go_enter Tryz.func48,Tryz.ntmps48
 go_wp2_with fail
 (refine Qad ?_; intro w1 hw1)
 have HB1:=Zh (show Below w.heap.size w w1 by rw [hw1]; exact Qah)
 have hX:Blk w1 w.heap.size 26 #[.slice A n c,.slice B m d,.slice C k e]:=by rw [hw1]; exact Qba
 have hY:Blk w1 (w.heap.size+1) 40 #[xA,xB,xC,.slice Q L cq,.slice G L cg,.slice AE S ce]:=by rw [hw1]; exact Qba
 clear hw1;with_reducible refine (HEN.out w1 HB1.out).mono ?_
 rintro r w2 ⟨rfl,hb2⟩;have hX2:=hX.below hb2 hX.lt;have hY2:=hY.below hb2 hY.lt;have HB2:=Zh (Zb HB1.out hb2);clear hb2 hX hY HEN;obtain ⟨x0,x1,x2⟩:=hX2.three;have y0:w2.cell? ⟨w.heap.size+1,3,none⟩=some (.slice Q L cq):=by rw [hY2.cell]; rfl
 have i0:¬((cc:Int)<0):=by omega
 have i1:((cc:Int) != (cc:Int))=false:=by simp
 go_wp2_with fail
 with_reducible refine (HLE.out w2 HB2.out).mono ?_
 rintro r w3 ⟨rfl,hb3⟩;have hY3:=hY2.below hb3 hY2.lt;have HB3:=Zh (Zb HB2.out hb3);clear hb3 HLE x0 x1 x2 y0 hX2 hY2;have y0:w3.cell? ⟨w.heap.size+1,0,none⟩=some xA:=by rw [hY3.cell]; rfl
 have y1:w3.cell? ⟨w.heap.size+1,1,none⟩=some xB:=by rw [hY3.cell]; rfl
 have y2:w3.cell? ⟨w.heap.size+1,2,none⟩=some xC:=by rw [hY3.cell]; rfl
 have y3:w3.cell? ⟨w.heap.size+1,3,none⟩=some (.slice Q L cq):=by rw [hY3.cell]; rfl
 have y4:w3.cell? ⟨w.heap.size+1,4,none⟩=some (.slice G L cg):=by rw [hY3.cell]; rfl
 have y5:w3.cell? ⟨w.heap.size+1,5,none⟩=some (.slice AE S ce):=by rw [hY3.cell]; rfl
 go_wp2_with fail
 with_reducible refine (HGA.out w3 HB3.out).mono ?_
 rintro r w4 ⟨A1,n1,c1,A2,n2,c2,rfl,h41,h42,hb4⟩;have hY4:=hY3.below hb4 hY3.lt;have HB4:=Zh (Zb HB3.out hb4);clear hb4 HGA y0 y1 y2 y3 y4 y5 hY3
 go_wp2_with fail
 (refine Qaj ?_; intro w5 hw5)
 have hb5:Below w4.heap.size w4 w5:=by rw [hw5]; exact Qah
 have hZ:Blk w5 w4.heap.size 109 #[.slice A1 n1 c1,.slice A2 n2 c2]:=by rw [hw5]; refine Blk.new' _ _ _ ?_; rfl
 clear hw5;have hY5:=hY4.below hb5 hY4.lt;have HB5:=Zh (Zb HB4.out hb5);have HI5:=Zh (h41.below hb5);have HJ5:=Zh (h42.below hb5)
 have HSX:=Zh (show ∀ V,Below w5.heap.size w5 V→V.cell? ⟨w.heap.size+1,0,none⟩=some xA∧V.cell? ⟨w.heap.size+1,1,none⟩=some xB∧V.cell? ⟨w.heap.size+1,2,none⟩=some xC∧V.cell? ⟨w.heap.size+1,3,none⟩=some (.slice Q L cq)∧V.cell? ⟨w.heap.size+1,4,none⟩=some (.slice G L cg)∧V.cell? ⟨w.heap.size+1,5,none⟩=some (.slice AE S ce)∧V.cell? ⟨w4.heap.size,0,none⟩=some (.slice A1 n1 c1)∧V.cell? ⟨w4.heap.size,1,none⟩=some (.slice A2 n2 c2) from fun V hV=>by
  have hO':=hY5.below hV hY5.lt;have hZ':=hZ.below hV hZ.lt;exact ⟨by rw [hO'.cell]; rfl,by rw [hO'.cell]; rfl,by rw [hO'.cell]; rfl,by rw [hO'.cell]; rfl,by rw [hO'.cell]; rfl,by rw [hO'.cell]; rfl,by rw [hZ'.cell]; rfl,by rw [hZ'.cell]; rfl⟩)
 clear hb5 h41 h42 hZ hY4 hY5
 go_wp2_with fail
 refine wp_region_held_drew (S:=fun V=>Below w5.heap.size w5 V) (by kernel_rfl) (Zr _ _).drew (fun _=>?_);refine tz 0 35 ?_;refine tz 1 36 ?_;refine tz 2 37 ?_;refine tz 3 38 ?_;refine tz 4 39 ?_;refine tz 5 40 ?_;refine tz 7 42 ?_;refine tz 8 43 ?_;refine tz 9 44 ?_;refine Zk 6 (fun K hK=>?_);go_simp;with_reducible refine (HPI.out A1 n1 c1 _ (HI5.out.below (Zr _ _).drew)).mono ?_
 rintro r w' ⟨rfl,rfl⟩;go_simp;refine hK.out _ _ (Zr _ _).drew (fun _=>?_);clear hK K;refine Zk 10 (fun K hK=>?_);go_simp;with_reducible refine (HPO.out A2 n2 c2 _ (HJ5.out.below (Zr _ _).drew)).mono ?_
 rintro r w' ⟨rfl,rfl⟩;go_simp;refine hK.out _ _ (Zr _ _).drew (fun _=>?_);clear hK K;refine Zk 11 (fun K hK=>?_);go_simp;with_reducible refine (HAT.out _ (Zb HB5.out (Zr _ _).drew)).mono ?_
 rintro r w6 ⟨rfl,hb6⟩;have hb6':Below w5.heap.size w5 w6:=(Zr _ _).drew.trans hb6;go_simp;refine hK.out _ _ hb6' (fun _=>?_);clear hK K;refine tz 12 10 ?_;refine wpAnyH_done (by kernel_rfl) ?_ _
 go_wp2_with fail
 go_ret
 exact ⟨rfl,Zb HB5.out hb6'⟩
def PrR (N:Qao) (ls:List (List Int)) (lv f t:Int) (w:World) (r:Ending) (w':World):Prop:=(∃ v,r=.returned (.int .i64 v)∧Qob N ls lv f t v)∧Below w.heap.size w w'
variable (CA:Option Addr) (NC cC:Nat) (cl:List Int)
set_option maxHeartbeats 2000000 in
theorem Qqs (lv f t:Int)(w:World)(h:Qbv w A B C n m k N)(hok:Qau N)(hP:Qay N.vs.length ls)(hO:OvD w Q G AE L S N ls EL)(hc:RdI w CA NC cl)(hA:Qdo N ls cl) :
 Calls Tryz.prog 27 #[.agg #[.slice A n c,.slice B m d,.slice C k e],.agg #[xA,xB,xC,.slice Q L cq,.slice G L cg,.slice AE S ce],.slice CA NC cC,.agg #[.int .i64 lv,.int .i64 f,.int .i64 t]] w (PrR N ls lv f t w):=by
 have hml:=h.2.1.1;have hm:m≤16384:=by rw [←h.2.1.1]; exact hok.la
 have HNO:=Zh (fun (hn:∀ (a b:Nat),f=(a:Int)→t=(b:Int)→a<N.ar.length→b<N.ar.length→lv≠0∧¬LeapQ N ls lv a b)=>Qjx (lv:=lv) (f:=f) (t:=t) hn);unfold PrR
 by_cases hf:0≤f∧f<(m:Int)
 rotate_left
 · have HTF:=Zh (fun V=>Qfn A B C n m k c d e f V hf)
   have HPR:=Zh (HNO.out (fun a b e1 _ h1 _=>absurd ⟨by omega,by omega⟩ hf));clear h hok hP hO hc hA hml hm hf HNO
   go_enter Tryz.func27,Tryz.ntmps27
   go_wp2_with fail
   (refine Qad ?_; intro w1 hw1)
   have HB1:=Zh (show Below w.heap.size w w1 by rw [hw1]; exact Qah)
   have hX:Blk w1 w.heap.size 26 #[.slice A n c,.slice B m d,.slice C k e]:=by rw [hw1]; exact Qba
   have hY:Blk w1 (w.heap.size+1) 40 #[xA,xB,xC,.slice Q L cq,.slice G L cg,.slice AE S ce]:=by rw [hw1]; exact Qba
   have hZ:Blk w1 (w.heap.size+2) 58 #[.int .i64 lv,.int .i64 f,.int .i64 t]:=by rw [hw1]; exact Qba
   clear hw1;with_reducible refine (HTF.out w1).mono ?_
   rintro r w2 ⟨rfl,hb2⟩;have hX2:=hX.below hb2 hX.lt;have hY2:=hY.below hb2 hY.lt;have hZ2:=hZ.below hb2 hZ.lt;have HB2:=Zh (Zb HB1.out hb2);clear hb2 hX hY hZ;obtain ⟨x0,x1,x2⟩:=hX2.three;obtain ⟨z0,z1,z2⟩:=hZ2.three
   go_wp2_with fail
   go_ret
   exact ⟨⟨_,rfl,HPR.out⟩,HB2.out⟩
 have HTF:=Zh (fun V=>Qcd A B C n m k c d e f V hf.1 hf.2)
 by_cases ht:0≤t∧t<(m:Int)
 rotate_left
 · have HTT:=Zh (fun V=>Qfn A B C n m k c d e t V ht)
   have HPR:=Zh (HNO.out (fun a b _ e2 _ h2=>absurd ⟨by omega,by omega⟩ ht));clear h hok hP hO hc hA hml hm hf ht HNO
   go_enter Tryz.func27,Tryz.ntmps27
   go_wp2_with fail
   (refine Qad ?_; intro w1 hw1)
   have HB1:=Zh (show Below w.heap.size w w1 by rw [hw1]; exact Qah)
   have hX:Blk w1 w.heap.size 26 #[.slice A n c,.slice B m d,.slice C k e]:=by rw [hw1]; exact Qba
   have hY:Blk w1 (w.heap.size+1) 40 #[xA,xB,xC,.slice Q L cq,.slice G L cg,.slice AE S ce]:=by rw [hw1]; exact Qba
   have hZ:Blk w1 (w.heap.size+2) 58 #[.int .i64 lv,.int .i64 f,.int .i64 t]:=by rw [hw1]; exact Qba
   clear hw1;with_reducible refine (HTF.out w1).mono ?_
   rintro r w2 ⟨rfl,hb2⟩;have hX2:=hX.below hb2 hX.lt;have hY2:=hY.below hb2 hY.lt;have hZ2:=hZ.below hb2 hZ.lt;have HB2:=Zh (Zb HB1.out hb2);clear hb2 hX hY hZ;obtain ⟨x0,x1,x2⟩:=hX2.three;obtain ⟨z0,z1,z2⟩:=hZ2.three
   go_wp2_with fail
   with_reducible refine (HTT.out w2).mono ?_
   rintro r w3 ⟨rfl,hb3⟩;have hX3:=hX2.below hb3 hX2.lt;have hY3:=hY2.below hb3 hY2.lt;have hZ3:=hZ2.below hb3 hZ2.lt;have HB3:=Zh (Zb HB2.out hb3);clear hb3 x0 x1 x2 z0 z1 z2 hX2 hY2 hZ2
   go_wp2_with fail
   go_ret
   exact ⟨⟨_,rfl,HPR.out⟩,HB3.out⟩
 have HTT:=Zh (fun V=>Qcd A B C n m k c d e t V ht.1 ht.2);obtain ⟨a,rfl⟩:∃ a:Nat,f=(a:Int):=⟨f.toNat,by omega⟩;obtain ⟨b,rfl⟩:∃ b:Nat,t=(b:Int):=⟨t.toNat,by omega⟩;have ham:a<m:=by omega
 have hbm:b<m:=by omega
 obtain ⟨y,hy⟩:∃ y,N.ar[a]?=some y:=⟨_,Zg (by omega)⟩;obtain ⟨z,hz⟩:∃ z,N.ar[b]?=some z:=⟨_,Zg (by omega)⟩;have HZW:=Zh (show 0≤z.2.2∧z.2.2≤1152921504606846976 from by have:=Qdu (hok.arcs z (Zm hz)).w; omega)
 obtain ⟨ab,ao,hB,_,_,d2⟩:=h.2.1.2 b z hz;have HD2:=Zh d2;clear d2;have k1:(b:Int)<(m:Int):=by omega
 have k2:(0:Int)≤(b:Int):=by omega
 by_cases hlv:lv=0
 · subst hlv
   have HPR:=Zh (Qgn (ls:=ls) hy hz);have HTU:=Zh (fun V (hV:Below w.heap.size w V)=>Qvi A B C n m k c d e N a b y z V (h.below hV) hok hy hz);have HTN:=Zh (Qdb hok a b);subst hB;clear h hok hP hO hc hA hml hm hf ht HNO hy hz ham hbm
   go_enter Tryz.func27,Tryz.ntmps27
   go_wp2_with fail
   (refine Qad ?_; intro w1 hw1)
   have HB1:=Zh (show Below w.heap.size w w1 by rw [hw1]; exact Qah)
   have hX:Blk w1 w.heap.size 26 #[.slice A n c,.slice (some ⟨ab,ao,none⟩) m d,.slice C k e]:=by rw [hw1]; exact Qba
   have hY:Blk w1 (w.heap.size+1) 40 #[xA,xB,xC,.slice Q L cq,.slice G L cg,.slice AE S ce]:=by rw [hw1]; exact Qba
   have hZ:Blk w1 (w.heap.size+2) 58 #[.int .i64 0,.int .i64 (a:Int),.int .i64 (b:Int)]:=by rw [hw1]; exact Qba
   clear hw1;with_reducible refine (HTF.out w1).mono ?_
   rintro r w2 ⟨rfl,hb2⟩;have hX2:=hX.below hb2 hX.lt;have hY2:=hY.below hb2 hY.lt;have hZ2:=hZ.below hb2 hZ.lt;have HB2:=Zh (Zb HB1.out hb2);clear hb2 hX hY hZ;obtain ⟨x0,x1,x2⟩:=hX2.three;obtain ⟨z0,z1,z2⟩:=hZ2.three
   go_wp2_with fail
   with_reducible refine (HTT.out w2).mono ?_
   rintro r w3 ⟨rfl,hb3⟩;have hX3:=hX2.below hb3 hX2.lt;have hY3:=hY2.below hb3 hY2.lt;have hZ3:=hZ2.below hb3 hZ2.lt;have HB3:=Zh (Zb HB2.out hb3);clear hb3 x0 x1 x2 z0 z1 z2 hX2 hY2 hZ2
   have HSX:=Zh (show ∀ V,Below w3.heap.size w3 V→V.cell? ⟨w.heap.size,0,none⟩=some (.slice A n c)∧V.cell? ⟨w.heap.size,1,none⟩=some (.slice (some ⟨ab,ao,none⟩) m d)∧V.cell? ⟨w.heap.size,2,none⟩=some (.slice C k e)∧V.cell? ⟨w.heap.size+2,0,none⟩=some (.int .i64 0)∧V.cell? ⟨w.heap.size+2,1,none⟩=some (.int .i64 a)∧V.cell? ⟨w.heap.size+2,2,none⟩=some (.int .i64 b)∧V.cell? ⟨ab,ao+b*3+2,none⟩=some (.int .i64 z.2.2) from fun V hV=>by
    have hX':=hX3.below hV hX3.lt;have hZ':=hZ3.below hV hZ3.lt;exact ⟨by rw [hX'.cell]; rfl,by rw [hX'.cell]; rfl,by rw [hX'.cell]; rfl,by rw [hZ'.cell]; rfl,by rw [hZ'.cell]; rfl,by rw [hZ'.cell]; rfl,Zc (Zb HB3.out hV) (Zn _) HD2.out⟩)
   obtain ⟨z0,z1,z2⟩:=hZ3.three;clear hX3 hY3
   go_wp2_with fail
   clear z0 z1 z2 hZ3;refine wp_region_held_drew (S:=fun V=>Below w3.heap.size w3 V) (by kernel_rfl) (Zr _ _).drew (fun _=>?_);refine tz 0 25 ?_;refine tz 1 26 ?_;refine tz 2 27 ?_;refine tz 3 28 ?_;refine tz 4 29 ?_;refine tz 6 31 ?_;refine tz 7 32 ?_;refine tz 8 33 ?_;refine tz 9 34 ?_;refine tz 10 35 ?_;refine tz 11 36 ?_;refine tz 12 37 ?_;refine Zk 5 (fun K hK=>?_);go_simp;with_reducible refine (HTU.out _ (Zb HB3.out (Zr _ _).drew)).mono ?_
   rintro r w4 ⟨rfl,hb4⟩;have hb4':Below w3.heap.size w3 w4:=(Zr _ _).drew.trans hb4;clear hb4;go_simp;refine hK.out _ _ hb4' (fun _=>?_);clear hK K;refine Zk 13 (fun K hK=>?_);go_simp;with_reducible refine (Qgb _ _ w4 (by have:=HTN.out; omega) HZW.out).mono ?_
   rintro r w' ⟨rfl,rfl⟩;go_simp;refine hK.out _ _ hb4' (fun _=>?_);clear hK K;refine tz 14 8 ?_;refine wpAnyH_done (by kernel_rfl) ?_ _
   go_wp2_with fail
   go_ret
   exact ⟨⟨_,rfl,HPR.out⟩,Zb HB3.out hb4'⟩
 by_cases hen:enF N ls lv (a:Int)<0∨leF N ls lv (b:Int)≠enF N ls lv (a:Int)
 · have HEY:=Zh (fun V (hV:Below w.heap.size w V)=>Qrn A B C Q G AE n m k c d e L cq cg S ce xA xB xC N ls EL lv a b V (h.below hV) hok hP (hO.below hV) hen)
   have HPR:=Zh (HNO.out (fun a' b' e1 e2 _ _=>⟨hlv,Qxv hok hP hen a' b' e1 e2⟩));clear h hok hP hO hc hA hml hm hf ht HNO hy hz ham hbm hB hen
   go_enter Tryz.func27,Tryz.ntmps27
   go_wp2_with fail
   (refine Qad ?_; intro w1 hw1)
   have HB1:=Zh (show Below w.heap.size w w1 by rw [hw1]; exact Qah)
   have hX:Blk w1 w.heap.size 26 #[.slice A n c,.slice B m d,.slice C k e]:=by rw [hw1]; exact Qba
   have hY:Blk w1 (w.heap.size+1) 40 #[xA,xB,xC,.slice Q L cq,.slice G L cg,.slice AE S ce]:=by rw [hw1]; exact Qba
   have hZ:Blk w1 (w.heap.size+2) 58 #[.int .i64 lv,.int .i64 (a:Int),.int .i64 (b:Int)]:=by rw [hw1]; exact Qba
   clear hw1;with_reducible refine (HTF.out w1).mono ?_
   rintro r w2 ⟨rfl,hb2⟩;have hX2:=hX.below hb2 hX.lt;have hY2:=hY.below hb2 hY.lt;have hZ2:=hZ.below hb2 hZ.lt;have HB2:=Zh (Zb HB1.out hb2);clear hb2 hX hY hZ;obtain ⟨x0,x1,x2⟩:=hX2.three;obtain ⟨z0,z1,z2⟩:=hZ2.three
   go_wp2_with fail
   with_reducible refine (HTT.out w2).mono ?_
   rintro r w3 ⟨rfl,hb3⟩;have hX3:=hX2.below hb3 hX2.lt;have hY3:=hY2.below hb3 hY2.lt;have hZ3:=hZ2.below hb3 hZ2.lt;have HB3:=Zh (Zb HB2.out hb3);clear hb3 x0 x1 x2 z0 z1 z2 hX2 hY2 hZ2;obtain ⟨z0,z1,z2⟩:=hZ3.three;obtain ⟨x0,x1,x2⟩:=hX3.three;have y0:w3.cell? ⟨w.heap.size+1,0,none⟩=some xA:=by rw [hY3.cell]; rfl
   have y1:w3.cell? ⟨w.heap.size+1,1,none⟩=some xB:=by rw [hY3.cell]; rfl
   have y2:w3.cell? ⟨w.heap.size+1,2,none⟩=some xC:=by rw [hY3.cell]; rfl
   have y3:w3.cell? ⟨w.heap.size+1,3,none⟩=some (.slice Q L cq):=by rw [hY3.cell]; rfl
   have y4:w3.cell? ⟨w.heap.size+1,4,none⟩=some (.slice G L cg):=by rw [hY3.cell]; rfl
   have y5:w3.cell? ⟨w.heap.size+1,5,none⟩=some (.slice AE S ce):=by rw [hY3.cell]; rfl
   have hZ3':=hZ3;clear hX3 hY3 hZ3
   go_wp2_with fail
   clear z0 z1 z2 x0 x1 x2 y0 y1 y2 y3 y4 y5;with_reducible refine (HEY.out w3 HB3.out).mono ?_
   rintro r w4 ⟨rfl,hb4⟩;have HB4:=Zh (Zb HB3.out hb4);clear hb4 HEY
   go_wp2_with fail
   go_ret
   exact ⟨⟨_,rfl,HPR.out⟩,HB4.out⟩
 · have he0:0≤enF N ls lv (a:Int):=by omega
   have hle:leF N ls lv (b:Int)=enF N ls lv (a:Int):=by
    by_cases h1:leF N ls lv (b:Int)=enF N ls lv (a:Int)
    · exact h1
    · exact absurd (.inr h1) hen
   obtain ⟨a',b',j,l,y',z',e1,e2,rfl,hl,hy',hz',g1,g2,g3,g4⟩:=Qyw he0 hle;obtain rfl:a=a':=by omega
   obtain rfl:b=b':=by omega
   rw [hy] at hy'
   cases hy'
   rw [hz] at hz'
   cases hz'
   obtain ⟨cc,p,q,kk,x,hcc,hx,hp,hq,_,_,hI⟩:=Qoo hok hP hl hy hz g1 g2 g3;obtain ⟨hkk,huu⟩:=leap_ent hO.ent (by rw [hO.len,hO.sum]) hI;rw [hcc] at g4;have HEY:=Zh (fun V (hV:Below w.heap.size w V)=>Qqk A B C Q G AE n m k c d e L cq cg S ce xA xB xC N ls EL j a b cc p q kk l x V (h.below hV) hok hP (hO.below hV) hl hx g4 (by rw [hle,g4]) hp hq hkk huu);obtain ⟨v,hv,hpr⟩:=Qsk hA hl hy hz g1 g2 g3 hcc hI;have HPR:=Zh hpr;have HVB:=Zh (hA.cost hok v (Zm hv));have hkn:kk<NC:=by rw [←hc.1]; exact (Zs hv).1
   have hNC9:NC≤1000000000:=by rw [←hc.1,hA.1,←hO.sum]; exact hO.s9
   obtain ⟨cb,co,v',rfl,hv',cv⟩:=hc.at_ hkn;rw [hv] at hv'
   cases hv'
   have HCV:=Zh cv;subst hB;have k3:(kk:Int)<(NC:Int):=by omega
   have k4:(0:Int)≤(kk:Int):=by omega
   have k5:¬(kk:Int)<0:=by omega
   clear h hok hP hO hc hA hml hm hf ht HNO hy hz ham hbm hen he0 hle g1 g2 g3 g4 hcc hx hp hq hI hkk huu hv hpr cv e1 e2 hl
   go_enter Tryz.func27,Tryz.ntmps27
   go_wp2_with fail
   (refine Qad ?_; intro w1 hw1)
   have HB1:=Zh (show Below w.heap.size w w1 by rw [hw1]; exact Qah)
   have hX:Blk w1 w.heap.size 26 #[.slice A n c,.slice (some ⟨ab,ao,none⟩) m d,.slice C k e]:=by rw [hw1]; exact Qba
   have hY:Blk w1 (w.heap.size+1) 40 #[xA,xB,xC,.slice Q L cq,.slice G L cg,.slice AE S ce]:=by rw [hw1]; exact Qba
   have hZ:Blk w1 (w.heap.size+2) 58 #[.int .i64 ((j:Int)+1),.int .i64 (a:Int),.int .i64 (b:Int)]:=by rw [hw1]; exact Qba
   clear hw1;with_reducible refine (HTF.out w1).mono ?_
   rintro r w2 ⟨rfl,hb2⟩;have hX2:=hX.below hb2 hX.lt;have hY2:=hY.below hb2 hY.lt;have hZ2:=hZ.below hb2 hZ.lt;have HB2:=Zh (Zb HB1.out hb2);clear hb2 hX hY hZ;obtain ⟨x0,x1,x2⟩:=hX2.three;obtain ⟨z0,z1,z2⟩:=hZ2.three
   go_wp2_with fail
   with_reducible refine (HTT.out w2).mono ?_
   rintro r w3 ⟨rfl,hb3⟩;have hX3:=hX2.below hb3 hX2.lt;have hY3:=hY2.below hb3 hY2.lt;have hZ3:=hZ2.below hb3 hZ2.lt;have HB3:=Zh (Zb HB2.out hb3);clear hb3 x0 x1 x2 z0 z1 z2 hX2 hY2 hZ2;have hX4':=hX3;obtain ⟨z0,z1,z2⟩:=hZ3.three;obtain ⟨x0,x1,x2⟩:=hX3.three;have y0:w3.cell? ⟨w.heap.size+1,0,none⟩=some xA:=by rw [hY3.cell]; rfl
   have y1:w3.cell? ⟨w.heap.size+1,1,none⟩=some xB:=by rw [hY3.cell]; rfl
   have y2:w3.cell? ⟨w.heap.size+1,2,none⟩=some xC:=by rw [hY3.cell]; rfl
   have y3:w3.cell? ⟨w.heap.size+1,3,none⟩=some (.slice Q L cq):=by rw [hY3.cell]; rfl
   have y4:w3.cell? ⟨w.heap.size+1,4,none⟩=some (.slice G L cg):=by rw [hY3.cell]; rfl
   have y5:w3.cell? ⟨w.heap.size+1,5,none⟩=some (.slice AE S ce):=by rw [hY3.cell]; rfl
   have hZ3':=hZ3;clear hX3 hY3 hZ3
   go_wp2_with fail
   clear z0 z1 z2 x0 x1 x2 y0 y1 y2 y3 y4 y5;with_reducible refine (HEY.out w3 HB3.out).mono ?_
   rintro r w4 ⟨rfl,hb4⟩;have HB4:=Zh (Zb HB3.out hb4);have hX4:=hX4'.below hb4 hX4'.lt;have hZ4:=hZ3'.below hb4 hZ3'.lt;clear hb4 HEY hX4' hZ3'
   have HSX:=Zh (show ∀ V,Below w4.heap.size w4 V→V.cell? ⟨w.heap.size,1,none⟩=some (.slice (some ⟨ab,ao,none⟩) m d)∧V.cell? ⟨w.heap.size+2,2,none⟩=some (.int .i64 b)∧V.cell? ⟨ab,ao+b*3+2,none⟩=some (.int .i64 z.2.2)∧V.cell? ⟨cb,co+kk,none⟩=some (.int .i64 v) from fun V hV=>by
    have hX':=hX4.below hV hX4.lt;have hZ':=hZ4.below hV hZ4.lt;exact ⟨by rw [hX'.cell]; rfl,by rw [hZ'.cell]; rfl,Zc (Zb HB4.out hV) (Zn _) HD2.out,Zc (Zb HB4.out hV) (Zn _) HCV.out⟩)
   clear hX4 hZ4
   go_wp2_with fail
   refine wp_region_held_drew (S:=fun V=>Below w4.heap.size w4 V) (by kernel_rfl) (Zr _ _).drew (fun _=>?_);refine tz 0 50 ?_;refine tz 1 51 ?_;refine tz 2 52 ?_;refine tz 3 53 ?_;refine tz 4 54 ?_;refine tz 5 55 ?_;refine tz 6 56 ?_;refine tz 7 57 ?_;refine tz 8 58 ?_;refine tz 9 59 ?_;refine tz 10 60 ?_;refine Zk 11 (fun K hK=>?_);go_simp;with_reducible refine (Qgb _ _ _ HVB.out HZW.out).mono ?_
   rintro r w' ⟨rfl,rfl⟩;go_simp;refine hK.out _ _ (Zr _ _).drew (fun _=>?_);clear hK K;refine tz 12 8 ?_;refine wpAnyH_done (by kernel_rfl) ?_ _
   go_wp2_with fail
   go_ret
   exact ⟨⟨_,rfl,HPR.out⟩,HB4.out.drew⟩
end
end Go.Proofs.YteaoiabikjnkeaaGreatDoor
