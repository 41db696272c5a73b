/- Parts of the proof: AsJ. -/
import Derived.Test.YteaoiabikjnkeaaGreatDoorM1
import Derived.Test.YteaoiabikjnkeaaGreatDoorM31
import Derived.Test.YteaoiabikjnkeaaGreatDoorM33
namespace Go.Proofs.YteaoiabikjnkeaaGreatDoor
open Go.RowKit
attribute [local go_sem ↓] Go.wp_at_zero Go.wp_at_succ
theorem Qtn (A:Option Addr)(n c:Nat)(xB xC xQ xG xE:Value)(v:Int)(w:World)(h:inR n v) :
 Calls Tryz.prog 70 #[.agg #[.slice A n c,xB,xC,xQ,xG,xE],.int .i64 v] w fun e w'=>e=.returned (.bool true)∧Below w.heap.size w w':=by
 have h0:0≤v:=h.1;have h1:v<(n:Int):=h.2
 clear h
 go_enter Tryz.func70,Tryz.ntmps70
 go_wp2
 go_ret
 exact ⟨Qbe (by first | (simp; done) | (simp; omega)),Qah⟩
theorem Qvb (A:Option Addr)(n c:Nat)(xB xC xQ xG xE:Value)(v:Int)(w:World)(h:¬inR n v) :
 Calls Tryz.prog 70 #[.agg #[.slice A n c,xB,xC,xQ,xG,xE],.int .i64 v] w fun e w'=>e=.returned (.bool false)∧Below w.heap.size w w':=by
 by_cases h0:0≤v
 · have h1:¬v<(n:Int):=fun h1=>h ⟨h0,h1⟩
   clear h
   go_enter Tryz.func70,Tryz.ntmps70
   go_wp2
   go_ret
   exact ⟨Qbe (by first | (simp; done) | (simp; omega)),Qah⟩
 · clear h
   go_enter Tryz.func70,Tryz.ntmps70
   go_wp2
   go_ret
   exact ⟨Qbe (by first | (simp; done) | (simp; omega)),Qah⟩
set_option maxRecDepth 20000 in
set_option maxHeartbeats 2000000 in
theorem Qrh (A Q:Option Addr)(n c L cq:Nat)(xB xC xG xE:Value) (ls:List (List Int)) (v a b:Int) (w:World) (h:RdT w Q L ls) (hP:Qay n ls) :
 Calls Tryz.prog 25 #[.agg #[.slice A n c,xB,xC,.slice Q L cq,xG,xE],.int .i64 v,.int .i64 a,.int .i64 b] w fun e w'=>e=.returned (.int .i64 (lvI n ls v a b))∧Below w.heap.size w w':=by
 have hL6:L≤6:=by rw [←h.1]; exact hP.l6
 have HLL:=Zh h.1;have HT:=Zh h;have HP:=Zh hP;have HVA:=Zh (fun (x:Int) (hx:inR n x) V=>Qtn A n c xB xC (.slice Q L cq) xG xE x V hx);have HVZ:=Zh (fun (x:Int) (hx:¬inR n x) V=>Qvb A n c xB xC (.slice Q L cq) xG xE x V hx);clear h hP
 by_cases hv:inR n v
 rotate_left
 · have HZ:=Zh (show lvI n ls v a b=0 by unfold lvI; rw [if_neg (fun h=>hv h.1)])
   have HVN:=Zh (fun V (_:Below w.heap.size w V)=>HVZ.out v hv V);clear hv
   go_enter Tryz.func25,Tryz.ntmps25
   go_wp2_with fail
   (refine Qad ?_; intro w1 hw1)
   have HBB:=Zh (show Below w.heap.size w w1 by rw [hw1]; exact Qah)
   clear hw1;with_reducible refine (HVN.out _ HBB.out).mono ?_
   rintro r w2 ⟨rfl,hb2⟩;have HB2:=Zh (Zb HBB.out hb2);clear hb2
   go_wp2_with fail
   go_ret
   rw [HZ.out];exact ⟨rfl,HB2.out⟩
 by_cases ha:inR n a
 rotate_left
 · have HZ:=Zh (show lvI n ls v a b=0 by unfold lvI; rw [if_neg (fun h=>ha h.2.1)])
   have HV1:=Zh (fun V=>HVA.out v hv V);have HV2:=Zh (fun V=>HVZ.out a ha V);clear hv ha
   go_enter Tryz.func25,Tryz.ntmps25
   go_wp2_with fail
   (refine Qad ?_; intro w1 hw1)
   have HBB:=Zh (show Below w.heap.size w w1 by rw [hw1]; exact Qah)
   have hX:Blk w1 w.heap.size 40 #[.slice A n c,xB,xC,.slice Q L cq,xG,xE]:=by rw [hw1]; refine Blk.new' _ _ _ ?_; rfl
   clear hw1;with_reducible refine (HV1.out _).mono ?_
   rintro r w2 ⟨rfl,hb2⟩;have hX2:=hX.below hb2 hX.lt;have hl2:=hX2.lt;have x0:w2.cell? ⟨w.heap.size,0,none⟩=some (.slice A n c):=by rw [hX2.cell]; rfl
   have x1:w2.cell? ⟨w.heap.size,1,none⟩=some xB:=by rw [hX2.cell]; rfl
   have x2:w2.cell? ⟨w.heap.size,2,none⟩=some xC:=by rw [hX2.cell]; rfl
   have x3:w2.cell? ⟨w.heap.size,3,none⟩=some (.slice Q L cq):=by rw [hX2.cell]; rfl
   have x4:w2.cell? ⟨w.heap.size,4,none⟩=some xG:=by rw [hX2.cell]; rfl
   have x5:w2.cell? ⟨w.heap.size,5,none⟩=some xE:=by rw [hX2.cell]; rfl
   have HB2:=Zh (Zb HBB.out hb2);clear hb2 hX hX2
   go_wp2_with fail
   with_reducible refine (HV2.out _).mono ?_
   rintro r w3 ⟨rfl,hb3⟩;have HB3:=Zh (Zb HB2.out hb3);clear hb3
   go_wp2_with fail
   go_ret
   rw [HZ.out];exact ⟨rfl,HB3.out⟩
 have HV1:=Zh (fun V=>HVA.out v hv V);have HV2:=Zh (fun V=>HVA.out a ha V)
 by_cases hb:inR n b
 rotate_left
 · have HZ:=Zh (show lvI n ls v a b=0 by unfold lvI; rw [if_neg (fun h=>hb h.2.2)])
   have HV3:=Zh (fun V=>HVZ.out b hb V);clear hv ha hb
   go_enter Tryz.func25,Tryz.ntmps25
   go_wp2_with fail
   (refine Qad ?_; intro w1 hw1)
   have HBB:=Zh (show Below w.heap.size w w1 by rw [hw1]; exact Qah)
   have hX:Blk w1 w.heap.size 40 #[.slice A n c,xB,xC,.slice Q L cq,xG,xE]:=by rw [hw1]; refine Blk.new' _ _ _ ?_; rfl
   clear hw1;with_reducible refine (HV1.out _).mono ?_
   rintro r w2 ⟨rfl,hb2⟩;have hX2:=hX.below hb2 hX.lt;have hl2:=hX2.lt;have x0:w2.cell? ⟨w.heap.size,0,none⟩=some (.slice A n c):=by rw [hX2.cell]; rfl
   have x1:w2.cell? ⟨w.heap.size,1,none⟩=some xB:=by rw [hX2.cell]; rfl
   have x2:w2.cell? ⟨w.heap.size,2,none⟩=some xC:=by rw [hX2.cell]; rfl
   have x3:w2.cell? ⟨w.heap.size,3,none⟩=some (.slice Q L cq):=by rw [hX2.cell]; rfl
   have x4:w2.cell? ⟨w.heap.size,4,none⟩=some xG:=by rw [hX2.cell]; rfl
   have x5:w2.cell? ⟨w.heap.size,5,none⟩=some xE:=by rw [hX2.cell]; rfl
   have HB2:=Zh (Zb HBB.out hb2);clear hb2 hX
   go_wp2_with fail
   with_reducible refine (HV2.out _).mono ?_
   rintro r w3 ⟨rfl,hb3⟩;have hX3:=hX2.below hb3 hX2.lt;have HB3:=Zh (Zb HB2.out hb3);have hl3:=hX3.lt;clear x0 x1 x2 x3 x4 x5 hb3 hX2 hl2;have x0:w3.cell? ⟨w.heap.size,0,none⟩=some (.slice A n c):=by rw [hX3.cell]; rfl
   have x1:w3.cell? ⟨w.heap.size,1,none⟩=some xB:=by rw [hX3.cell]; rfl
   have x2:w3.cell? ⟨w.heap.size,2,none⟩=some xC:=by rw [hX3.cell]; rfl
   have x3:w3.cell? ⟨w.heap.size,3,none⟩=some (.slice Q L cq):=by rw [hX3.cell]; rfl
   have x4:w3.cell? ⟨w.heap.size,4,none⟩=some xG:=by rw [hX3.cell]; rfl
   have x5:w3.cell? ⟨w.heap.size,5,none⟩=some xE:=by rw [hX3.cell]; rfl
   clear hX3
   go_wp2_with fail
   with_reducible refine (HV3.out _).mono ?_
   rintro r w4 ⟨rfl,hb4⟩;have HB4:=Zh (Zb HB3.out hb4);clear hb4
   go_wp2_with fail
   go_ret
   rw [HZ.out];exact ⟨rfl,HB4.out⟩
 have HV3:=Zh (fun V=>HVA.out b hb V);have HIR:=Zh (And.intro hv (And.intro ha hb));unfold inR at hv ha hb;obtain ⟨vn,rfl⟩:∃ vn:Nat,v=(vn:Int):=⟨v.toNat,by omega⟩;obtain ⟨an,rfl⟩:∃ vn:Nat,a=(vn:Int):=⟨a.toNat,by omega⟩;obtain ⟨bn,rfl⟩:∃ vn:Nat,b=(vn:Int):=⟨b.toNat,by omega⟩;have p1:(0:Int)≤(vn:Int):=by omega
 have p2:(0:Int)≤(an:Int):=by omega
 have p3:(0:Int)≤(bn:Int):=by omega
 have p4:(vn:Int)<(n:Int):=by omega
 have p5:(an:Int)<(n:Int):=by omega
 have p6:(bn:Int)<(n:Int):=by omega
 clear hv ha hb
 go_enter Tryz.func25,Tryz.ntmps25
 go_wp2_with fail
 (refine Qad ?_; intro w1 hw1)
 have HBB:=Zh (show Below w.heap.size w w1 by rw [hw1]; exact Qah)
 have hX:Blk w1 w.heap.size 40 #[.slice A n c,xB,xC,.slice Q L cq,xG,xE]:=by rw [hw1]; refine Blk.new' _ _ _ ?_; rfl
 clear hw1;with_reducible refine (HV1.out _).mono ?_
 rintro r w2 ⟨rfl,hb2⟩;have hX2:=hX.below hb2 hX.lt;have hl2:=hX2.lt;have x0:w2.cell? ⟨w.heap.size,0,none⟩=some (.slice A n c):=by rw [hX2.cell]; rfl
 have x1:w2.cell? ⟨w.heap.size,1,none⟩=some xB:=by rw [hX2.cell]; rfl
 have x2:w2.cell? ⟨w.heap.size,2,none⟩=some xC:=by rw [hX2.cell]; rfl
 have x3:w2.cell? ⟨w.heap.size,3,none⟩=some (.slice Q L cq):=by rw [hX2.cell]; rfl
 have x4:w2.cell? ⟨w.heap.size,4,none⟩=some xG:=by rw [hX2.cell]; rfl
 have x5:w2.cell? ⟨w.heap.size,5,none⟩=some xE:=by rw [hX2.cell]; rfl
 have HB2:=Zh (Zb HBB.out hb2);clear hb2 hX
 go_wp2_with fail
 with_reducible refine (HV2.out _).mono ?_
 rintro r w3 ⟨rfl,hb3⟩;have hX3:=hX2.below hb3 hX2.lt;have HB3:=Zh (Zb HB2.out hb3);have hl3:=hX3.lt;clear x0 x1 x2 x3 x4 x5 hb3 hX2 hl2;have x0:w3.cell? ⟨w.heap.size,0,none⟩=some (.slice A n c):=by rw [hX3.cell]; rfl
 have x1:w3.cell? ⟨w.heap.size,1,none⟩=some xB:=by rw [hX3.cell]; rfl
 have x2:w3.cell? ⟨w.heap.size,2,none⟩=some xC:=by rw [hX3.cell]; rfl
 have x3:w3.cell? ⟨w.heap.size,3,none⟩=some (.slice Q L cq):=by rw [hX3.cell]; rfl
 have x4:w3.cell? ⟨w.heap.size,4,none⟩=some xG:=by rw [hX3.cell]; rfl
 have x5:w3.cell? ⟨w.heap.size,5,none⟩=some xE:=by rw [hX3.cell]; rfl
 go_wp2_with fail
 with_reducible refine (HV3.out _).mono ?_
 rintro r w4 ⟨rfl,hb4⟩;have hX4:=hX3.below hb4 hX3.lt;have HB4:=Zh (Zb HB3.out hb4);have HX4:=Zh hX4;clear x0 x1 x2 x3 x4 x5 hb4 hX3 hl3 hX4 HVA HVZ HV1 HV2 HV3
 go_wp2_with fail
 go_loopw [9,10] (fun ut ul W=>∃ j:Nat,j≤L∧ul=.int .i64 ((j:Int)+1)∧ut=.int .i64 ((Qjb ls (vn:Int) [(an:Int),(bn:Int)] j:Nat):Int)∧Below w.heap.size w W∧Blk W w.heap.size 40 #[.slice A n c,xB,xC,.slice Q L cq,xG,xE]) (fun _ ul _=>L+1-(intOf ul).toNat)
 case atStart=>exact ⟨0,Nat.zero_le _,by go_num,rfl,HB4.out,HX4.out⟩
 case round =>
  clear HX4 HB4;obtain ⟨j,hj,rfl,rfl,hbl,hX⟩:=hrel;have HB:=Zh hbl;have HX:=Zh hX;have hXl:=hX.lt;have x3:wr.cell? ⟨w.heap.size,3,none⟩=some (.slice Q L cq):=by rw [hX.cell]; rfl
  by_cases hlt:j<L
  rotate_left
  · obtain rfl:j=L:=by omega
    have HZ:=Zh (show lvI n ls (vn:Int) (an:Int) (bn:Int)=((Qjb ls (vn:Int) [(an:Int),(bn:Int)] j:Nat):Int) by
     unfold lvI Qdd;rw [if_pos HIR.out,HLL.out])
    obtain ⟨tp,htp⟩:∃ tp,tp=Qjb ls (vn:Int) [(an:Int),(bn:Int)] j:=⟨_,rfl⟩;rw [←htp] at HZ ⊢;have e0:¬((j:Int)+1≤(j:Int)):=by omega
    clear hX hbl htp
    go_wp2_with fail
    go_ret
    rw [HZ.out];exact ⟨rfl,HB.out⟩
  · obtain ⟨qb,qo,A1,n1,c1,l,rfl,hl,k0,k1,_,_⟩:=(HT.out.below hbl).at_ (i:=j) hlt
    have hlo:=HP.out.lvl l (Zm hl);obtain rfl:n=n1:=by rw [←k1.1]; exact hlo.len.symm
    obtain ⟨lb,lo,zv,rfl,hzv,cv⟩:=k1.at_ (i:=vn) (by omega);obtain ⟨_,_,za,ea,hza,ca⟩:=k1.at_ (i:=an) (by omega)
    cases ea
    obtain ⟨_,_,zb,eb,hzb,cb⟩:=k1.at_ (i:=bn) (by omega)
    cases eb
    have HAP:=Zh (show Qcg ls j (vn:Int) [(an:Int),(bn:Int)]↔zv≠za∧zv≠zb from by
     constructor
     · rintro ⟨l',hl',g⟩
       rw [hl] at hl'
       cases hl'
       have g1:=g _ (List.mem_cons_self ..);have g2:=g _ (List.mem_cons_of_mem _ (List.mem_cons_self ..));rw [Qap hzv,Qap hza] at g1;rw [Qap hzv,Qap hzb] at g2;exact ⟨g1,g2⟩
     · rintro ⟨g1,g2⟩
       refine ⟨l,hl,fun x hx=>?_⟩;rw [List.mem_cons,List.mem_cons] at hx
       rcases hx with rfl | rfl | hx
       · rw [Qap hzv,Qap hza]; exact g1
       · rw [Qap hzv,Qap hzb]; exact g2
       · cases hx)
    have e0:(j:Int)+1≤(L:Int):=by omega
    have e1:(j:Int)+1-1=(j:Int):=by omega
    have e2:(0:Int)≤(j:Int):=by omega
    have e3:(j:Int)<(L:Int):=by omega
    have wl:IntKind.i64.wrap (j:Int)=(j:Int):=IntWalk.i64_in _ (by omega);obtain ⟨tp,htp⟩:∃ tp,tp=Qjb ls (vn:Int) [(an:Int),(bn:Int)] j:=⟨_,rfl⟩;rw [←htp];have HTP:=Zh htp;clear hX hbl htp hlo hl k1 hzv hza hzb
    go_wp2_with fail
    refine wp_region_held_drew (S:=fun V=>V=wr.drew) (by kernel_rfl) rfl (fun _=>?_)
    by_cases h1:zv=za
    · have e4:(zv != za)=false:=by simp [h1]
      have HLN:=Zh (show Qjb ls (vn:Int) [(an:Int),(bn:Int)] (j+1)=tp by rw [HTP.out]; exact Qnn (fun h=>(HAP.out.1 h).1 h1))
      clear h1;refine tz 0 43 ?_;refine tz 1 44 ?_;refine tz 2 45 ?_;refine tz 3 46 ?_;refine tz 4 47 ?_;refine tz 5 48 ?_;refine tz 6 49 ?_;refine tz 7 50 ?_;refine tz 8 51 ?_;refine tz 9 52 ?_;refine tw 10 53 ?_;refine tw 11 54 ?_;refine tw 12 55 ?_;refine tw 13 56 ?_;refine tw 14 57 ?_;refine tw 15 58 ?_;refine tw 16 59 ?_;refine tw 17 60 ?_;refine tw 18 61 ?_;refine tz 19 62 ?_;refine wpAnyH_done (by kernel_rfl) ?_ _;obtain ⟨w9,hw9⟩:∃ W,W=wr.drew:=⟨_,rfl⟩;rw [←hw9];have HB9:=Zh (show Below w.heap.size w w9 by rw [hw9]; exact HB.out.drew)
      have HX9:=Zh (show Blk w9 w.heap.size 40 #[.slice A n c,xB,xC,.slice (some ⟨qb,qo,none⟩) L cq,xG,xE] by rw [hw9]; exact HX.out)
      clear hw9
      go_wp2_with fail
      go_roundw
      case rel=>exact ⟨j+1,by omega,by go_num,by rw [HLN.out],HB9.out,HX9.out⟩
      case measure=>simp [intOf]; omega
    · have e4:(zv != za)=true:=by simp [h1]
      by_cases h2:zv=zb
      · have e5:(zv != zb)=false:=by simp [h2]
        have HLN:=Zh (show Qjb ls (vn:Int) [(an:Int),(bn:Int)] (j+1)=tp by rw [HTP.out]; exact Qnn (fun h=>(HAP.out.1 h).2 h2))
        clear h1 h2;refine tz 0 43 ?_;refine tz 1 44 ?_;refine tz 2 45 ?_;refine tz 3 46 ?_;refine tz 4 47 ?_;refine tz 5 48 ?_;refine tz 6 49 ?_;refine tz 7 50 ?_;refine tz 8 51 ?_;refine tz 9 52 ?_;refine tz 10 53 ?_;refine tz 11 54 ?_;refine tz 12 55 ?_;refine tz 13 56 ?_;refine tz 14 57 ?_;refine tz 15 58 ?_;refine tz 16 59 ?_;refine tz 17 60 ?_;refine tz 18 61 ?_;refine tz 19 62 ?_;refine wpAnyH_done (by kernel_rfl) ?_ _;obtain ⟨w9,hw9⟩:∃ W,W=wr.drew:=⟨_,rfl⟩;rw [←hw9];have HB9:=Zh (show Below w.heap.size w w9 by rw [hw9]; exact HB.out.drew)
        have HX9:=Zh (show Blk w9 w.heap.size 40 #[.slice A n c,xB,xC,.slice (some ⟨qb,qo,none⟩) L cq,xG,xE] by rw [hw9]; exact HX.out)
        clear hw9
        go_wp2_with fail
        go_roundw
        case rel=>exact ⟨j+1,by omega,by go_num,by rw [HLN.out],HB9.out,HX9.out⟩
        case measure=>simp [intOf]; omega
      · have e5:(zv != zb)=true:=by simp [h2]
        have HLN:=Zh (show ((Qjb ls (vn:Int) [(an:Int),(bn:Int)] (j+1):Nat):Int)=(j:Int)+1 by rw [Qsc (HAP.out.2 ⟨h1,h2⟩)]; rfl)
        clear h1 h2;refine tz 0 43 ?_;refine tz 1 44 ?_;refine tz 2 45 ?_;refine tz 3 46 ?_;refine tz 4 47 ?_;refine tz 5 48 ?_;refine tz 6 49 ?_;refine tz 7 50 ?_;refine tz 8 51 ?_;refine tz 9 52 ?_;refine tz 10 53 ?_;refine tz 11 54 ?_;refine tz 12 55 ?_;refine tz 13 56 ?_;refine tz 14 57 ?_;refine tz 15 58 ?_;refine tz 16 59 ?_;refine tz 17 60 ?_;refine tz 18 61 ?_;refine tz 19 62 ?_;refine wpAnyH_done (by kernel_rfl) ?_ _;obtain ⟨w9,hw9⟩:∃ W,W=wr.drew:=⟨_,rfl⟩;rw [←hw9];have HB9:=Zh (show Below w.heap.size w w9 by rw [hw9]; exact HB.out.drew)
        have HX9:=Zh (show Blk w9 w.heap.size 40 #[.slice A n c,xB,xC,.slice (some ⟨qb,qo,none⟩) L cq,xG,xE] by rw [hw9]; exact HX.out)
        clear hw9
        go_wp2_with fail
        go_roundw
        case rel=>exact ⟨j+1,by omega,by go_num,by rw [HLN.out],HB9.out,HX9.out⟩
        case measure=>simp [intOf]; omega
def Qfb (w:World) (b:Option (Int×Int)) (e:Ending) (w':World):Prop:=(match b with | none=>e=.returned (.agg #[.slice none 0 0,.int .i64 0]) | some (k,c)=>∃ A4 n4 m4,e=.returned (.agg #[.slice A4 n4 m4,.int .i64 c])∧RdW w' A4 n4 [((⟨#[97,115,107]⟩:ByteArray),k)]∧n4≤1000000)∧Below w.heap.size w w'
set_option maxHeartbeats 2000000 in
theorem Qdj (A B C E:Option Addr)(n m k c d e NC S ce:Nat)(xA xB xC xQ xG:Value)(s t:Int)(w:World)(hNC:NC≤1000000000000) :
 Calls Tryz.prog 20 #[.agg #[.slice A n c,.slice B m d,.slice C k e],.agg #[xA,xB,xC,xQ,xG,.slice E S ce],.int .i64 NC,.int .i64 s,.int .i64 t] w (Qfb w (Qeo m NC S s t)):=by
 unfold Qeo
 by_cases hs:0≤s∧s<(m:Int)
 rotate_left
 · rw [if_pos (by omega)]
   unfold Qfb;have HS:=Zh (fun V=>Qfn A B C n m k c d e s V hs);clear hs
   go_enter Tryz.func20,Tryz.ntmps20
   go_wp2_with fail
   (refine Qad ?_; intro w1 hw1)
   have hb:Below w.heap.size w w1:=by rw [hw1]; exact Qah
   have hN:Blk w1 w.heap.size 26 #[.slice A n c,.slice B m d,.slice C k e]:=by rw [hw1]; exact Qba
   have hO:Blk w1 (w.heap.size+1) 40 #[xA,xB,xC,xQ,xG,.slice E S ce]:=by rw [hw1]; exact Qba
   have hR:Blk w1 (w.heap.size+2) 48 #[.slice none 0 0,.int .i64 0]:=by rw [hw1]; exact Qba
   clear hw1;with_reducible refine (HS.out w1).mono ?_
   rintro r w2 ⟨rfl,hb2⟩;have hN2:=hN.below hb2 hN.lt;have hO2:=hO.below hb2 hO.lt;have hR:=hR.below hb2 hR.lt;have hb:=Zb hb hb2;clear hN hO hb2;have x0:w2.cell? ⟨w.heap.size,0,none⟩=some (.slice A n c):=by rw [hN2.cell]; rfl
   have x1:w2.cell? ⟨w.heap.size,1,none⟩=some (.slice B m d):=by rw [hN2.cell]; rfl
   have x2:w2.cell? ⟨w.heap.size,2,none⟩=some (.slice C k e):=by rw [hN2.cell]; rfl
   go_wp2_with fail
   with_reducible refine (Qri _ _ _ _).mono ?_
   rintro e w3 ⟨A4,n4,m4,rfl,h4,hA4,h5,hb3⟩;have hB3:=hR.below hb3 hR.lt;obtain ⟨d0,d1,f0,f1⟩:=hB3.two;have hbw3:=Zb hb hb3;have HW:=Zh ((h4.setFar (w.heap.size+2) 0 (.slice A4 n4 m4) (fun b e=>⟨by have:=(hA4 b e).1; have:=hR.lt; omega,(hA4 b e).2⟩)).setFar (w.heap.size+2) 1 (.int .i64 5) (fun b e=>⟨by have:=(hA4 b e).1; have:=hR.lt; omega,by simpa [World.setCell] using (hA4 b e).2⟩));have hbw4:Below w.heap.size w ((w3.setCell ⟨w.heap.size+2,0,none⟩ (.slice A4 n4 m4)).setCell ⟨w.heap.size+2,1,none⟩ (.int .i64 5)):=(hbw3.setCell (by simp only; omega) _).setCell (by simp only; omega) _;clear h4 hA4 hb3
   go_wp2_with fail
   refine bodyPost_ret (v:=.agg #[.slice A4 n4 m4,.int .i64 5]) (by simp [results,Tryz.results20,go_sem,d0,d1]) rfl ?_;exact ⟨⟨_,_,_,rfl,HW.out,h5⟩,hbw4⟩
 rw [if_neg (by omega)];have HS:=Zh (fun V=>Qcd A B C n m k c d e s V hs.1 hs.2)
 by_cases ht:0≤t∧t<(m:Int)
 rotate_left
 · rw [if_pos (by omega)]
   unfold Qfb;have HT:=Zh (fun V=>Qfn A B C n m k c d e t V ht);clear hs ht
   go_enter Tryz.func20,Tryz.ntmps20
   go_wp2_with fail
   (refine Qad ?_; intro w1 hw1)
   have hb:Below w.heap.size w w1:=by rw [hw1]; exact Qah
   have hN:Blk w1 w.heap.size 26 #[.slice A n c,.slice B m d,.slice C k e]:=by rw [hw1]; exact Qba
   have hO:Blk w1 (w.heap.size+1) 40 #[xA,xB,xC,xQ,xG,.slice E S ce]:=by rw [hw1]; exact Qba
   have hR:Blk w1 (w.heap.size+2) 48 #[.slice none 0 0,.int .i64 0]:=by rw [hw1]; exact Qba
   clear hw1;with_reducible refine (HS.out w1).mono ?_
   rintro r w2 ⟨rfl,hb2⟩;have hN2:=hN.below hb2 hN.lt;have hO2:=hO.below hb2 hO.lt;have hR:=hR.below hb2 hR.lt;have hb:=Zb hb hb2;clear hN hO hb2;have x0:w2.cell? ⟨w.heap.size,0,none⟩=some (.slice A n c):=by rw [hN2.cell]; rfl
   have x1:w2.cell? ⟨w.heap.size,1,none⟩=some (.slice B m d):=by rw [hN2.cell]; rfl
   have x2:w2.cell? ⟨w.heap.size,2,none⟩=some (.slice C k e):=by rw [hN2.cell]; rfl
   go_wp2_with fail
   with_reducible refine (HT.out w2).mono ?_
   rintro r w2' ⟨rfl,hb2⟩;have hO2:=hO2.below hb2 hO2.lt;have hR:=hR.below hb2 hR.lt;have hb:=Zb hb hb2;clear hN2 x0 x1 x2 hb2;have x5:w2'.cell? ⟨w.heap.size+1,5,none⟩=some (.slice E S ce):=by rw [hO2.cell]; rfl
   go_wp2_with fail
   with_reducible refine (Qri _ _ _ _).mono ?_
   rintro e w3 ⟨A4,n4,m4,rfl,h4,hA4,h5,hb3⟩;have hB3:=hR.below hb3 hR.lt;obtain ⟨d0,d1,f0,f1⟩:=hB3.two;have hbw3:=Zb hb hb3;have HW:=Zh ((h4.setFar (w.heap.size+2) 0 (.slice A4 n4 m4) (fun b e=>⟨by have:=(hA4 b e).1; have:=hR.lt; omega,(hA4 b e).2⟩)).setFar (w.heap.size+2) 1 (.int .i64 5) (fun b e=>⟨by have:=(hA4 b e).1; have:=hR.lt; omega,by simpa [World.setCell] using (hA4 b e).2⟩));have hbw4:Below w.heap.size w ((w3.setCell ⟨w.heap.size+2,0,none⟩ (.slice A4 n4 m4)).setCell ⟨w.heap.size+2,1,none⟩ (.int .i64 5)):=(hbw3.setCell (by simp only; omega) _).setCell (by simp only; omega) _;clear h4 hA4 hb3
   go_wp2_with fail
   refine bodyPost_ret (v:=.agg #[.slice A4 n4 m4,.int .i64 5]) (by simp [results,Tryz.results20,go_sem,d0,d1]) rfl ?_;exact ⟨⟨_,_,_,rfl,HW.out,h5⟩,hbw4⟩
 rw [if_neg (by omega)];have HT:=Zh (fun V=>Qcd A B C n m k c d e t V ht.1 ht.2)
 by_cases h5:NC=S
 · rw [if_neg (fun h=>h h5)]
   unfold Qfb;have h5':=h5.symm;subst h5';clear hs ht h5
   go_enter Tryz.func20,Tryz.ntmps20
   go_wp2_with fail
   (refine Qad ?_; intro w1 hw1)
   have hb:Below w.heap.size w w1:=by rw [hw1]; exact Qah
   have hN:Blk w1 w.heap.size 26 #[.slice A n c,.slice B m d,.slice C k e]:=by rw [hw1]; exact Qba
   have hO:Blk w1 (w.heap.size+1) 40 #[xA,xB,xC,xQ,xG,.slice E S ce]:=by rw [hw1]; exact Qba
   have hR:Blk w1 (w.heap.size+2) 48 #[.slice none 0 0,.int .i64 0]:=by rw [hw1]; exact Qba
   clear hw1;with_reducible refine (HS.out w1).mono ?_
   rintro r w2 ⟨rfl,hb2⟩;have hN2:=hN.below hb2 hN.lt;have hO2:=hO.below hb2 hO.lt;have hR:=hR.below hb2 hR.lt;have hb:=Zb hb hb2;clear hN hO hb2;have x0:w2.cell? ⟨w.heap.size,0,none⟩=some (.slice A n c):=by rw [hN2.cell]; rfl
   have x1:w2.cell? ⟨w.heap.size,1,none⟩=some (.slice B m d):=by rw [hN2.cell]; rfl
   have x2:w2.cell? ⟨w.heap.size,2,none⟩=some (.slice C k e):=by rw [hN2.cell]; rfl
   go_wp2_with fail
   with_reducible refine (HT.out w2).mono ?_
   rintro r w2' ⟨rfl,hb2⟩;have hO2:=hO2.below hb2 hO2.lt;have hR:=hR.below hb2 hR.lt;have hb:=Zb hb hb2;clear hN2 x0 x1 x2 hb2;have x5:w2'.cell? ⟨w.heap.size+1,5,none⟩=some (.slice E S ce):=by rw [hO2.cell]; rfl
   obtain ⟨d0,d1,f0,f1⟩:=hR.two;have hbw4:Below w.heap.size w ((w2'.setCell ⟨w.heap.size+2,0,none⟩ (.slice none 0 0)).setCell ⟨w.heap.size+2,1,none⟩ (.int .i64 0)):=(hb.setCell (by simp only; omega) _).setCell (by simp only; omega) _
   go_wp2_with fail
   refine bodyPost_ret (v:=.agg #[.slice none 0 0,.int .i64 0]) (by simp [results,Tryz.results20,go_sem,d0,d1]) rfl ?_;exact ⟨rfl,hbw4⟩
 · rw [if_pos h5]
   unfold Qfb;have i6:¬(NC:Int)=(S:Int):=by omega
   clear hs ht h5
   go_enter Tryz.func20,Tryz.ntmps20
   go_wp2_with fail
   (refine Qad ?_; intro w1 hw1)
   have hb:Below w.heap.size w w1:=by rw [hw1]; exact Qah
   have hN:Blk w1 w.heap.size 26 #[.slice A n c,.slice B m d,.slice C k e]:=by rw [hw1]; exact Qba
   have hO:Blk w1 (w.heap.size+1) 40 #[xA,xB,xC,xQ,xG,.slice E S ce]:=by rw [hw1]; exact Qba
   have hR:Blk w1 (w.heap.size+2) 48 #[.slice none 0 0,.int .i64 0]:=by rw [hw1]; exact Qba
   clear hw1;with_reducible refine (HS.out w1).mono ?_
   rintro r w2 ⟨rfl,hb2⟩;have hN2:=hN.below hb2 hN.lt;have hO2:=hO.below hb2 hO.lt;have hR:=hR.below hb2 hR.lt;have hb:=Zb hb hb2;clear hN hO hb2;have x0:w2.cell? ⟨w.heap.size,0,none⟩=some (.slice A n c):=by rw [hN2.cell]; rfl
   have x1:w2.cell? ⟨w.heap.size,1,none⟩=some (.slice B m d):=by rw [hN2.cell]; rfl
   have x2:w2.cell? ⟨w.heap.size,2,none⟩=some (.slice C k e):=by rw [hN2.cell]; rfl
   go_wp2_with fail
   with_reducible refine (HT.out w2).mono ?_
   rintro r w2' ⟨rfl,hb2⟩;have hO2:=hO2.below hb2 hO2.lt;have hR:=hR.below hb2 hR.lt;have hb:=Zb hb hb2;clear hN2 x0 x1 x2 hb2;have x5:w2'.cell? ⟨w.heap.size+1,5,none⟩=some (.slice E S ce):=by rw [hO2.cell]; rfl
   go_wp2_with fail
   with_reducible refine (Qri _ _ _ _).mono ?_
   rintro e w3 ⟨A4,n4,m4,rfl,h4,hA4,h5,hb3⟩;have hB3:=hR.below hb3 hR.lt;obtain ⟨d0,d1,f0,f1⟩:=hB3.two;have hbw3:=Zb hb hb3;have HW:=Zh ((h4.setFar (w.heap.size+2) 0 (.slice A4 n4 m4) (fun b e=>⟨by have:=(hA4 b e).1; have:=hR.lt; omega,(hA4 b e).2⟩)).setFar (w.heap.size+2) 1 (.int .i64 1) (fun b e=>⟨by have:=(hA4 b e).1; have:=hR.lt; omega,by simpa [World.setCell] using (hA4 b e).2⟩));have hbw4:Below w.heap.size w ((w3.setCell ⟨w.heap.size+2,0,none⟩ (.slice A4 n4 m4)).setCell ⟨w.heap.size+2,1,none⟩ (.int .i64 1)):=(hbw3.setCell (by simp only; omega) _).setCell (by simp only; omega) _;clear h4 hA4 hb3
   go_wp2_with fail
   refine bodyPost_ret (v:=.agg #[.slice A4 n4 m4,.int .i64 1]) (by simp [results,Tryz.results20,go_sem,d0,d1]) rfl ?_;exact ⟨⟨_,_,_,rfl,HW.out,h5⟩,hbw4⟩
end Go.Proofs.YteaoiabikjnkeaaGreatDoor
