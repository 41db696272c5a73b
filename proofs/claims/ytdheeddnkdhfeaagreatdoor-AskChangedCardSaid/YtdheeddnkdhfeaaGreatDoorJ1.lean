/- Parts of the proof: Voc, Err, App, Bas, Ft, Nv, Nt1, Nt2. -/
import Derived.Test.YtdheeddnkdhfeaaGreatDoorProg
import Derived.WalkKit
import Derived.Lib.Hide
import Derived.Deep.AppendLies
import Derived.Deep.Draws
import Derived.Laws.OwnMore
import Derived.LaidEql
import Derived.Stop.Asserts
import Derived.RowKitTokens
import Derived.Lib.IfaceEq
import Derived.Stop.IfaceNil
import Derived.Maps.AppendAt
import Derived.RegionTactic
import Derived.OwnWalk
import Derived.Laws.CopyOwn
import Derived.Deep.QuietTactic
import Derived.BigQuiet
import Derived.Deep.RegionHeld3
import Derived.Deep.DrawnRows
namespace Go.Proofs.YtdheeddnkdhfeaaGreatDoor
open Go.RowKit Go.Proofs.Tryz
set_option maxRecDepth 100000 in
theorem Kaa {p:Prop} (h:p:=by
 as_aux_lemma =>
  have HG:=Zh (show RdG (msk V1 F) G L (gatesOf N.ar ls) from hG1)
  have HF:=Zh hFF;have HFL:=Zh hFL;have hV1b:w.heap.size+1+1<V1.heap.size:=by have:=hZ.lt;have:=hbV.size;omega
  have HV0:=Zh (show OvN w1 V1 F b5 (.slice A n c) (.slice B m d) (.slice C k e) (.slice Q L cq) (.slice G L cg) N ls V1 none 0 [] from ⟨Qbb.refl _ _,Zn _,hbV,hBX,Own.nil _ _ _ _,fun q f hq=>by simp at hq⟩)
  clear hG1 hFF hFL hBX hbV HSX
  go_wp2_with fail
  go_loopw [6] (fun q V=>∃ (i:Nat) (A':Option Addr) (cp:Nat) (EL:List Ent),i≤L∧q=.int .i64 i∧EL.length=Qca ((gatesOf N.ar ls).take i)∧OvN w1 V1 F b5 (.slice A n c) (.slice B m d) (.slice C k e) (.slice Q L cq) (.slice G L cg) N ls V A' cp EL) (fun q _=>L-(intOf q).toNat)
  case atStart=>exact ⟨0,none,0,[],Nat.zero_le _,rfl,by simp [Qca],HV0.out⟩
  case round =>
   obtain ⟨i,A',cp,EL,hi,rfl,hEL,hV⟩:=hrel;have HV:=Zh hV;have HEL:=Zh hEL;have x4:wr.cell? ⟨b5,4,none⟩=some (.slice G L cg):=Zq hV.box;have xl:=hV.box.lt;clear hEL
   by_cases hlt:i<L
   rotate_left
   · obtain rfl:i=L:=by omega
     have x0:wr.cell? ⟨b5,0,none⟩=some (.slice A n c):=Zq hV.box;have x1:wr.cell? ⟨b5,1,none⟩=some (.slice B m d):=Zq hV.box;have x2:wr.cell? ⟨b5,2,none⟩=some (.slice C k e):=Zq hV.box;have x3:wr.cell? ⟨b5,3,none⟩=some (.slice Q i cq):=Zq hV.box;have x5:wr.cell? ⟨b5,5,none⟩=some (.slice A' EL.length cp):=Zq hV.box;have hZr:=hZ.below hV.bel hZ.lt;have hZl:=hZ.lt;have z0:wr.cell? ⟨w.heap.size+1+1,0,none⟩=some (.slice none 0 0):=Zq hZr;have z1:wr.cell? ⟨w.heap.size+1+1,1,none⟩=some (.slice none 0 0):=Zq hZr;have z2:wr.cell? ⟨w.heap.size+1+1,2,none⟩=some (.slice none 0 0):=Zq hZr;have z3:wr.cell? ⟨w.heap.size+1+1,3,none⟩=some (.slice none 0 0):=Zq hZr;have z4:wr.cell? ⟨w.heap.size+1+1,4,none⟩=some (.slice none 0 0):=Zq hZr;have z5:wr.cell? ⟨w.heap.size+1+1,5,none⟩=some (.slice none 0 0):=Zq hZr;have f0:=hZr.frozen 0;have f1:=hZr.frozen 1;have f2:=hZr.frozen 2;have f3:=hZr.frozen 3;have f4:=hZr.frozen 4;have f5:=hZr.frozen 5;clear hV
     go_wp2_with fail
     obtain ⟨w9,hw9⟩:∃ w9,w9=(((((wr.setCell ⟨w.heap.size+1+1,0,none⟩ (.slice A n c)).setCell ⟨w.heap.size+1+1,1,none⟩ (.slice B m d)).setCell ⟨w.heap.size+1+1,2,none⟩ (.slice C k e)).setCell ⟨w.heap.size+1+1,3,none⟩ (.slice Q i cq)).setCell ⟨w.heap.size+1+1,4,none⟩ (.slice G i cg)).setCell ⟨w.heap.size+1+1,5,none⟩ (.slice A' EL.length cp):=⟨_,rfl⟩;rw [←hw9]
     have hB9:Blk w9 (w.heap.size+1+1) 57 #[.slice A n c,.slice B m d,.slice C k e,.slice Q i cq,.slice G i cg,.slice A' EL.length cp]:=by
      have:=(((((hZr.set_ 0 (.slice A n c)).set_ 1 (.slice B m d)).set_ 2 (.slice C k e)).set_ 3 (.slice Q i cq)).set_ 4 (.slice G i cg)).set_ 5 (.slice A' EL.length cp);rw [←hw9] at this
      simpa using this
     have hbr:Below w.heap.size w wr:=Zb hb1 HV.out.bel
     have hb9:Below w.heap.size w w9:=by
      rw [hw9];exact Zi (Zi (Zi (Zi (Zi (Zi hbr (by omega)) (by omega)) (by omega)) (by omega)) (by omega)) (by omega)
     have hk9:Qbb (fun b=>b≠w.heap.size+1+1) wr w9:=by rw [hw9];exact Qld (fun e=>e rfl) _ _ _ _ _ _
     obtain ⟨c0,c1,c2,c3,c4,c5⟩:w9.cell? ⟨w.heap.size+1+1,0,none⟩=some (.slice A n c)∧w9.cell? ⟨w.heap.size+1+1,1,none⟩=some (.slice B m d)∧w9.cell? ⟨w.heap.size+1+1,2,none⟩=some (.slice C k e)∧w9.cell? ⟨w.heap.size+1+1,3,none⟩=some (.slice Q i cq)∧w9.cell? ⟨w.heap.size+1+1,4,none⟩=some (.slice G i cg)∧w9.cell? ⟨w.heap.size+1+1,5,none⟩=some (.slice A' EL.length cp):=by
      refine ⟨?_,?_,?_,?_,?_,?_⟩ <;> (rw [hB9.cell];rfl)
     refine bodyPost_ret (v:=.agg #[.slice A n c,.slice B m d,.slice C k e,.slice Q i cq,.slice G i cg,.slice A' EL.length cp]) (by simp [results,results18,go_sem,c0,c1,c2,c3,c4,c5]) rfl ?_;refine ⟨G,cg,A',cp,EL,rfl,?_,(HV.out.own.keep (fun b hb=>hk9 b (by have:=(HV.out.own.lt b hb).1;have:=hV1b;omega) (HV.out.own.lt b hb).2)).rds,?_,HV.out.row,hb9⟩
     · exact HG.out.le ((HV.out.kept.trans (hk9.mono (fun b hb=>by have:=HFL.out b hb;omega)) HV.out.size).msk.trans (Qbd _ _))
     · rw [HEL.out,Ye (by unfold gatesOf;simp [HLL.out])]
   obtain ⟨row,gb,go,rA,rn,rc,hrow,rfl,g1,g2,g3⟩:=HG.out.at_ hlt;obtain ⟨l,hl⟩:∃ l,ls[i]?=some l:=⟨_,Zg (by rw [HLL.out];exact hlt)⟩
   have hre:row=gateRow N.ar l:=by
    rw [Qbt hl] at hrow;exact (Yv hrow).symm
   subst hre;have hM:(gateRow N.ar l).length=rn:=g2.1
   have hMb:rn≤4096:=by
    have h1:=HP.out.lvl l (Zm hl);have h2:=Qcm (l:=l) (n:=(N.vs.length:Int)) (fun x hx=>h1.hi x hx) (by omega);rw [←hM,Qau];omega
   have HG1:=Zh g1;have HG2:=Zh g2;have HM:=Zh hM;have HLJ:=Zh hl;have i1:(i:Int)<(L:Int):=by omega
   have i2:(0:Int)≤(i:Int):=by omega
   clear hV g1 g2 hl hrow hM
   go_wp2_with fail
   go_loopw [7] (fun q V=>∃ (c9:Nat) (A':Option Addr) (cp:Nat) (EL:List Ent),c9≤rn∧q=.int .i64 c9∧EL.length=Qca ((gatesOf N.ar ls).take i)+Qdy ((gateRow N.ar l).take c9)∧OvN w1 V1 F b5 (.slice A n c) (.slice B m d) (.slice C k e) (.slice Q L cq) (.slice (some ⟨gb,go,none⟩) L cg) N ls V A' cp EL) (fun q _=>rn-(intOf q).toNat)
   case atStart=>exact ⟨0,A',cp,EL,Nat.zero_le _,rfl,by rw [HEL.out];simp [Qdy],HV.out⟩
   case round =>
    clear HV HEL x4 xl;obtain ⟨c9,A',cp,EL,hc,rfl,hEL,hV⟩:=hrel;have HV:=Zh hV;have HEL:=Zh hEL;have x4:wr.cell? ⟨b5,4,none⟩=some (.slice (some ⟨gb,go,none⟩) L cg):=Zq hV.box;have xl:=hV.box.lt;have y1:=hV.le _ _ HG1.out;clear hEL hV
    by_cases hcM:c9<rn
    rotate_left
    · obtain rfl:c9=rn:=by omega
      have j1:¬((c9:Int)<(c9:Int)):=by omega
      go_wp2_with fail
      go_roundw
      case rel=>exact ⟨i+1,A',cp,EL,by omega,by go_num,by rw [Qdb (Qbt HLJ.out),HEL.out,Ye (l:=gateRow N.ar l) (by rw [HM.out];exact Zn _)],HV.out⟩
      case measure=>simp [intOf];omega
    obtain ⟨x,rb,ro,A1,n1,c1,A2,n2,c2,hx,rfl,k1,k2,k3,k4,_⟩:=HG2.out.at_ hcM;have hm1:x.1.length=n1:=k2.1;have hm2:x.2.length=n2:=k4.1;have hgx:=Qbn hx
    have hfit:EL.length+szG x≤NC:=by
     have e1:=Qjy (gateRow N.ar l) (c9+1);have e2:=Qfr (gatesOf N.ar ls) (i+1);rw [Qdb (Qbt HLJ.out),←HNC.out] at e2;rw [Qcz hx] at e1;have:=HEL.out;omega
    have HK1:=Zh k1;have HK3:=Zh k3;have HX:=Zh hx;have j1:(c9:Int)<(rn:Int):=by omega
    have j2:(0:Int)≤(c9:Int):=by omega
    have hn1:n1≤16384:=by omega
    have hn2:n2≤16384:=by omega
    have HCL:=Zh (show EL.length=Qca ((gatesOf N.ar ls).take i)+Qdy ((gateRow N.ar l).take c9) from HEL.out)
    obtain ⟨E0,hE0⟩:∃ E0,E0=EL.length:=⟨_,rfl⟩;rw [←hE0] at HCL hfit;clear k1 k2 k3 k4 hx hE0 hgx
    go_wp2_with fail
    go_loopw [8] (fun q V=>∃ (a:Nat) (A':Option Addr) (cp:Nat) (EL:List Ent),a≤n1∧q=.int .i64 a∧EL.length=E0+a*n2∧OvN w1 V1 F b5 (.slice A n c) (.slice B m d) (.slice C k e) (.slice Q L cq) (.slice (some ⟨gb,go,none⟩) L cg) N ls V A' cp EL) (fun q _=>n1-(intOf q).toNat)
    case atStart=>exact ⟨0,A',cp,EL,Nat.zero_le _,rfl,by rw [HEL.out,HCL.out];omega,HV.out⟩
    case round =>
     clear HV HEL x4 xl y1;obtain ⟨a,A',cp,EL,ha,rfl,hEL,hV⟩:=hrel;have HV:=Zh hV;have HEL:=Zh hEL;have x4:wr.cell? ⟨b5,4,none⟩=some (.slice (some ⟨gb,go,none⟩) L cg):=Zq hV.box;have xl:=hV.box.lt;have y1:=hV.le _ _ HG1.out;have y2:=hV.le _ _ HK1.out;clear hEL hV
     by_cases haM:a<n1
     rotate_left
     · obtain rfl:a=n1:=by omega
       have l1:¬((a:Int)<(a:Int)):=by omega
       go_wp2_with fail
       go_roundw
       case rel=>exact ⟨c9+1,A',cp,EL,by omega,by go_num,by rw [Qcz HX.out,HEL.out,HCL.out];unfold szG;rw [hm1,hm2,Nat.add_assoc],HV.out⟩
       case measure=>simp [intOf];omega
     have l1:(a:Int)<(n1:Int):=by omega
     have l2:(0:Int)≤(a:Int):=by omega
     go_wp2_with fail
     go_loopw [9] (fun q V=>∃ (b:Nat) (A':Option Addr) (cp:Nat) (EL:List Ent),b≤n2∧q=.int .i64 b∧EL.length=E0+a*n2+b∧OvN w1 V1 F b5 (.slice A n c) (.slice B m d) (.slice C k e) (.slice Q L cq) (.slice (some ⟨gb,go,none⟩) L cg) N ls V A' cp EL) (fun q _=>n2-(intOf q).toNat)
     case atStart=>exact ⟨0,A',cp,EL,Nat.zero_le _,rfl,by rw [HEL.out];omega,HV.out⟩
     case round =>
      clear HV HEL x4 xl y1 y2;obtain ⟨b,A',cp,EL,hb,rfl,hEL,hV⟩:=hrel;have HV:=Zh hV;have HEL:=Zh hEL;have x4:wr.cell? ⟨b5,4,none⟩=some (.slice (some ⟨gb,go,none⟩) L cg):=Zq hV.box;have x5:wr.cell? ⟨b5,5,none⟩=some (.slice A' EL.length cp):=Zq hV.box;have xl:=hV.box.lt;have y1:=hV.le _ _ HG1.out;have y2:=hV.le _ _ HK3.out
      by_cases hbM:b<n2
      rotate_left
      · obtain rfl:b=n2:=by omega
        have l3:¬((b:Int)<(b:Int)):=by omega
        clear hEL hV
        go_wp2_with fail
        go_roundw
        case rel=>exact ⟨a+1,A',cp,EL,by omega,by go_num,by rw [HEL.out,Nat.add_mul,Nat.one_mul];omega,HV.out⟩
        case measure=>simp [intOf];omega
      have l3:(b:Int)<(n2:Int):=by omega
      have l4:(0:Int)≤(b:Int):=by omega
      obtain ⟨z1,hz1⟩:∃ z,x.1[a]?=some z:=⟨_,Zg (by rw [hm1];exact haM)⟩;obtain ⟨s,rfl⟩:=Qfj HX.out hz1;obtain ⟨z2,hz2⟩:∃ z,x.2[b]?=some z:=⟨_,Zg (by rw [hm2];exact hbM)⟩;obtain ⟨t,rfl⟩:=Qdq HX.out hz2
      have hlen:EL.length<NC:=by
       have e1:(a+1)*n2≤n1*n2:=Nat.mul_le_mul_right _ haM;rw [Nat.add_mul,Nat.one_mul] at e1;unfold szG at hfit;rw [hm1,hm2] at hfit;omega
      have HEN:=Zh (show ∃ l' x' s' t',Qfs N ls EL.length i l' c9 x' a b s' t' from ⟨l,x,s,t,HLJ.out,HX.out,hz1,hz2,by unfold Qgq;rw [HEL.out,HCL.out,hm2];omega⟩)
      obtain ⟨W2,hW2⟩:∃ W2,W2=wr.alloc (.cells #[.int .i64 ((i:Int)+1),.int .i64 (c9:Int),.int .i64 (a:Int),.int .i64 (b:Int)] 76):=⟨_,rfl⟩;have HV7:=Zh (HV.out.below (show Below wr.heap.size wr W2 by rw [hW2];exact Qag))
      have hown:=HV7.out.own;have hrd:Rds W2 4 (some ⟨wr.heap.size,0,none⟩) 1 (Qhr (i,c9,a,b)):=by rw [hW2];exact (Blk.new wr 76 #[.int .i64 ((i:Int)+1),.int .i64 (c9:Int),.int .i64 (a:Int),.int .i64 (b:Int)]).rds rfl
      have hsz:V1.heap.size≤W2.heap.size:=HV7.out.size;have HW2:=Zh hW2;clear hW2 hEL hV hz1 hz2
      go_wp2_with (at_builtin;rw [←HW2.out];with_reducible refine Qan rfl (.tmp 62) (.tmp 69) 55 rfl 76 _ 4 32 Rae underlying55 rfl (by omega) rfl rfl hown hrd (Qpn _) (by omega) (by omega) hsz ?_)
      intro A3 c3 w8 ho8 hg8 hat8;have hB8:=HV7.out.box.grown hg8 (fun e=>by have:=(hown.lt b5 e).1;omega);have v5:w8.cell? ⟨b5,5,none⟩=some (.slice A' EL.length cp):=Zq hB8;have v6:=hB8.frozen 5;have v7:=hB8.lt;have HV8:=Zh (HV7.out.push (e:=(i,c9,a,b)) HF.out hb51 hb52 ho8 hg8 HEN.out);clear hown hrd hsz ho8 hg8 hat8 hB8
      go_wp2_with fail
      go_roundw
      case rel=>exact ⟨b+1,A3,c3,EL ++[(i,c9,a,b)],by omega,by go_num,by rw [Yp,HEL.out];rfl,HV8.out⟩
      case measure=>simp [intOf];omega):p:=h
theorem Kab {p:Prop} (h:p:=by
 try rw [←q2] at h3 ⊢
 clear hK K q q2 h2
 try simp only [Act.put,Yi,Yj,Yk]
 refine Qae (rs:=[3]) (by kernel_rfl) (by simp) ?_;refine Qaz.cons (o:=_) rfl (fun K hK=>?_) (Qaz.nil);with_reducible refine Qaj (some 9) rfl rfl (.tmp 6) (.tmp 8) 22 rfl 124 _ 3 24 Qgb underlying22 rfl (by omega) rfl rfl h3.v (HV.out W3 h3.bel) (Qaq _) (by omega) (by omega) h3.bel.size ?_
 intro X c W4 ho hg hat;rw [Yz,List.nil_append] at ho;have h4:=h3.growV ho hg hat;refine hK.out _ _ h4.bel (fun _=>?_);clear hK K ho hg hat h3;simp only [Act.put,Yi,Yj,Yk,Yz];refine Qae (rs:=[7]) (by kernel_rfl) (by simp) ?_;refine Qaz.cons (o:=_) rfl (fun K hK=>?_) (Qaz.nil);with_reducible refine Qaj (some 13) rfl rfl (.tmp 10) (.tmp 12) 23 rfl 119 _ 3 24 Qej underlying23 rfl (by omega) rfl rfl h4.a (HA.out W4 h4.bel) (Qaq _) (by omega) (by omega) h4.bel.size ?_
 intro X c W5 ho hg hat;rw [Yz,List.nil_append] at ho;have h5:=h4.growA ho hg hat;refine hK.out _ _ h5.bel (fun _=>?_);clear hK K ho hg hat h4;simp only [Act.put,Yi,Yj,Yk,Yz];refine Qae (rs:=[8]) (by kernel_rfl) (by simp) ?_;refine Qaz.cons (o:=_) rfl (fun K hK=>?_) (Qaz.nil);go_simp;refine hK.out _ _ h5.bel (fun _=>?_);have h6:=h5;obtain ⟨W6,rfl⟩:∃ X,X=W5:=⟨_,rfl⟩;clear hK K h5
 try simp only [Act.put,Yi,Yj,Yk]
 exact ⟨by kernel_rfl,hC.out (.slice (some ⟨g0,0,none⟩) 0 0) _ (.slice (some ⟨g4,0,none⟩) 0 0) _ _ _ _ (CpG.of h6)⟩):p:=h
theorem Kac {p:Prop} (h:p:=by
 have HYY:=Zh hyW;have hownY:=hyW.1;clear hyW;refine Zk 10 (fun K hK=>?_);with_reducible refine Qaj (some 22) rfl rfl (.tmp 13) (.tmp 21) 27 rfl 61 _ 1 24 Qgy underlying27 rfl (by omega) rfl rfl hownY hrdW (Qck _ _ _) (by omega) (by omega) hWsz ?_
 intro A' c' w' hown' hg hat;have hb5:Below (w.heap.size+2) wr w':=Zo hbW hg (hownY.mono (by omega)) (by omega);have hb6:Below w.heap.size w w':=Zo hblW hg (hownY.mono (by omega)) (by omega);have hJ':=hJW.grown hg (hownY.ne (by omega));have hR':=hRW.grown hg (hownY.ne (by omega));have hK':=hKW.grown hg (hownY.ne (by omega));have HYN:=Zh (HYY.out.push hown' hg hat hcW hclW hcapW hcapM);clear hownY hrdW hbW hblW hJW hRW hKW hg hclW hcW hown' hat HYY hbrW hcapW hcapM;refine hK.out _ _ hb5 (fun _=>?_);clear hK K;simp only [Act.put,Yi,Yj,Yk];refine tz 11 23 ?_;have k3':=hK'.cell 0;simp only [Yo,Yn] at k3';have kf':=hK'.frozen 0;refine Zk 12 (fun K hK=>?_);go_simp;refine hK.out _ _ (hb5.setCell (by simp only;omega) _) (fun _=>?_);clear hK K;refine Zd ?_;have HK2:=Zh (hK'.set_ 0 (.slice A' (j+1) c'));have HY2:=Zh (HYN.out.far (Qaa w' (w.heap.size+2) 0 (.slice A' (j+1) c')) (by omega));have HB2:=Zh (show Below w.heap.size w (w'.setCell ⟨w.heap.size+2,0,none⟩ (.slice A' (j+1) c')) from hb6.setCell (by simp only;omega) _)
 have HJ2:=Zh (hJ'.far_ (b:=w.heap.size+2) (o:=0) (by omega) (.slice A' (j+1) c'));have HR2:=Zh (hR'.far_ (b:=w.heap.size+2) (o:=0) (by omega) (.slice A' (j+1) c'));clear hK' k3' kf' hJ' hR'
 go_wp2_with fail
 go_roundw
 case rel=>exact ⟨HB2.out,HJ2.out,HR2.out,j+1,A',c',_,by omega,by go_num,HK2.out,by rw [HN.out];exact HY2.out⟩
 case measure=>simp [intOf];omega):p:=h
theorem Kad {p:Prop} (h:p:=by
 cases h
 go_enter func96,ntmps96
 go_wp2_with fail
 (refine Qab ?_;intro w1 hw1)
 have hb1:Below w.heap.size w w1:=by rw [hw1];exact Qag
 have hR1:Blk w1 (w.heap.size+1) 122 #[.int .i64 0,.int .i64 0,.slice none 0 0]:=by rw [hw1];exact Qay
 have hX1:Blk w1 (w.heap.size+1+1) 66 #[.slice none 0 0,.int .i64 0]:=by rw [hw1];exact Qay
 have hz1:w.heap.size+3≤w1.heap.size:=by rw [hw1];simp
 clear hw1;with_reducible refine (Qfo _ _ _ _).mono ?_
 rintro r w2 ⟨A4,n4,m4,rfl,h4,hA4,h5,hb⟩;have hb2:=Zb hb1 hb;have hR2:=hR1.below hb hR1.lt;have hX2:=hX1.below hb hX1.lt;clear hb hR1 hX1 hb1;obtain ⟨r0,r1,r2⟩:=hR2.three;have fr0:=hR2.frozen 0;have fr1:=hR2.frozen 1;have fr2:=hR2.frozen 2;obtain ⟨x0,x1,fx0,fx1⟩:=hX2.two
 have HRW:=Zh (show RdW (((((w2.setCell ⟨w.heap.size+1,0,none⟩ (.int .i64 0)).setCell ⟨w.heap.size+1,1,none⟩ (.int .i64 0)).setCell ⟨w.heap.size+1,2,none⟩ (.slice none 0 0)).setCell ⟨w.heap.size+1+1,0,none⟩ (.slice A4 n4 m4)).setCell ⟨w.heap.size+1+1,1,none⟩ (.int .i64 5)) A4 n4 _ from
  RdW.keepB h4 (fun b hb=>(((((Qbo.refl (fun x=>w1.heap.size≤x) w2).set (by omega) _ _).set (by omega) _ _).set (by omega) _ _).set (by omega) _ _).set (by omega) _ _ |>.1 b (hA4 b hb).1 (hA4 b hb).2))
 clear h4
 go_wp2_with fail
 refine bodyPost_ret (v:=.tuple #[.agg #[.int .i64 0,.int .i64 0,.slice none 0 0],.agg #[.slice A4 n4 m4,.int .i64 5]]) (by simp [results,results96,go_sem,r0,r1,r2,x0,x1]) rfl ?_;exact ⟨_,_,_,rfl,HRW.out,h5,((((hb2.setCell (by simp only;omega) _).setCell (by simp only;omega) _).setCell (by simp only;omega) _).setCell (by simp only;omega) _).setCell (by simp only;omega) _⟩):p:=h
theorem Kae {p:Prop} (h:p:=by
 try rw [←q2] at h4 ⊢
 clear hK K q q2 h3
 try simp only [Act.put,Yi,Yj,Yk]
 refine Qae (rs:=[7]) (by kernel_rfl) (by simp) ?_;refine Qaz.cons (o:=_) rfl (fun K hK=>?_) (Qaz.nil);with_reducible refine Qaj (some 13) rfl rfl (.tmp 10) (.tmp 12) 23 rfl 119 _ 3 24 Qej underlying23 rfl (by omega) rfl rfl h4.a (HA.out W4 h4.bel) (Qaq _) (by omega) (by omega) h4.bel.size ?_
 intro X c W5 ho hg hat;rw [Yz,List.nil_append] at ho;have h5:=h4.growA ho hg hat;refine hK.out _ _ h5.bel (fun _=>?_);clear hK K ho hg hat h4;simp only [Act.put,Yi,Yj,Yk,Yz];refine Qae (rs:=[8]) (by kernel_rfl) (by simp) ?_;refine Qaz.cons (o:=_) rfl (fun K hK=>?_) (Qaz.nil);go_simp;refine hK.out _ _ h5.bel (fun _=>?_);have h6:=h5;obtain ⟨W6,rfl⟩:∃ X,X=W5:=⟨_,rfl⟩;clear hK K h5
 try simp only [Act.put,Yi,Yj,Yk]
 exact ⟨by kernel_rfl,hC.out (.slice (some ⟨g0,0,none⟩) 0 0) _ (.slice (some ⟨g4,0,none⟩) 0 0) _ _ _ _ (CpG.of h6)⟩):p:=h
theorem Kaf {p:Prop} (h:p:=by
 cases hno
 go_enter func43,ntmps43
 go_wp2_with fail
 (refine Qai ?_;intro w2 hw2)
 have hb2':Below w.heap.size w w2:=by rw [hw2];exact Qag
 have hJ2:Blk w2 w.heap.size 26 #[.slice A n c,.slice B m d,.slice C k e]:=by rw [hw2];exact Qay
 have hR2:Blk w2 (w.heap.size+1) 26 #[.slice none 0 0,.slice none 0 0,.slice none 0 0]:=by rw [hw2];exact Qay
 have hX2:Blk w2 (w.heap.size+1+1) 66 #[.slice none 0 0,.int .i64 0]:=by rw [hw2];exact Qay
 have hz2:w.heap.size+3≤w2.heap.size:=by rw [hw2];simp
 clear hw2;have HSX:=Zh (show ∀ X,Qbo (fun b=>b≠w.heap.size+1∧b≠w.heap.size+1+1) w2 X→X.cell? ⟨w.heap.size,0,none⟩=some (.slice A n c)∧X.cell? ⟨w.heap.size,1,none⟩=some (.slice B m d)∧X.cell? ⟨w.heap.size,2,none⟩=some (.slice C k e) from fun X hX=>(hX.blk hJ2 ⟨by omega,by omega⟩).three)
 refine wp_region_held_drew (S:=fun X=>Qbo (fun b=>b≠w.heap.size+1∧b≠w.heap.size+1+1) w2 X) (by kernel_rfl) ⟨Qbb.refl _ _,Zn _⟩ (fun _=>?_);refine tz 0 24 ?_;refine tz 1 25 ?_;refine Zk 2 (fun K hK=>?_);go_simp;have hbd:Below w2.heap.size w2 w2.drew:=(Zr _ _).drew;with_reducible refine (Qfo _ _ _ _).mono ?_
 rintro r w4 ⟨A4,n4,m4,rfl,h4,hA4,h5,hb⟩;have hb4:Below w2.heap.size w2 w4:=hbd.trans hb;have hb4':=Zb hb2' hb4;have hS4:Qbo (fun b=>b≠w.heap.size+1∧b≠w.heap.size+1+1) w2 w4:=(Qbo.refl _ _).step hb4;have hR4:=hR2.below hb4 hR2.lt;have hX4:=hX2.below hb4 hX2.lt;have hz4:=hb4.size;have hA5:∀ b,Qac A4=some b→w.heap.size+3≤b∧b<w4.heap.size:=fun b e=>⟨Yx hz2 (hA4 b e).1,(hA4 b e).2⟩
 clear hb hbd hb4 hJ2 hR2 hX2 hA4
 go_wp2_with fail
 refine hK.out _ _ hS4 (fun _=>?_);clear hK K;obtain ⟨r0,r1,r2⟩:=hR4.three;have fr0:=hR4.frozen 0;have fr1:=hR4.frozen 1;have fr2:=hR4.frozen 2;refine Zk 3 (fun K hK=>?_);go_simp;have hS5:=((hS4.set (g:=w.heap.size+1) (by simp) 0 (.slice A n c)).set (g:=w.heap.size+1) (by simp) 1 (.slice B m d)).set (g:=w.heap.size+1) (by simp) 2 (.slice C k e);have hR5:=((hR4.set_ 0 (.slice A n c)).set_ 1 (.slice B m d)).set_ 2 (.slice C k e);have hX5:=((hX4.far (p:=⟨w.heap.size+1,0,none⟩) (by simp only;omega) (.slice A n c)).far (p:=⟨w.heap.size+1,1,none⟩) (by simp only;omega) (.slice B m d)).far (p:=⟨w.heap.size+1,2,none⟩) (by simp only;omega) (.slice C k e);have hb5:=((hb4'.setCell (p:=⟨w.heap.size+1,0,none⟩) (by simp only;omega) (.slice A n c)).setCell (p:=⟨w.heap.size+1,1,none⟩) (by simp only;omega) (.slice B m d)).setCell (p:=⟨w.heap.size+1,2,none⟩) (by simp only;omega) (.slice C k e);have hw5:=((h4.setFar (w.heap.size+1) 0 (.slice A n c) (fun b e=>⟨by have:=(hA5 b e).1;omega,(hA5 b e).2⟩)).setFar (w.heap.size+1) 1 (.slice B m d) (fun b e=>⟨by have:=(hA5 b e).1;omega,by simpa [World.setCell] using (hA5 b e).2⟩)).setFar (w.heap.size+1) 2 (.slice C k e) (fun b e=>⟨by have:=(hA5 b e).1;omega,by simpa [World.setCell] using (hA5 b e).2⟩);refine hK.out _ _ hS5 (fun _=>?_);obtain ⟨W5,hW5⟩:∃ X,X=((w4.setCell ⟨w.heap.size+1,0,none⟩ (.slice A n c)).setCell ⟨w.heap.size+1,1,none⟩ (.slice B m d)).setCell ⟨w.heap.size+1,2,none⟩ (.slice C k e):=⟨_,rfl⟩;have hz5:w4.heap.size=W5.heap.size:=by rw [hW5];simp [World.setCell]
 rw [←hW5] at hS5 hR5 hX5 hb5 hw5 ⊢;clear hK K hW5 r0 r1 r2 fr0 fr1 fr2 hR4 hX4 hS4 h4 hb4';obtain ⟨x0,x1,fx0,fx1⟩:=hX5.two;refine Zk 4 (fun K hK=>?_);go_simp;refine hK.out _ _ ((hS5.set (by simp) _ _).set (by simp) _ _) (fun _=>?_);clear hK K;refine Zd ?_
 go_wp2_with fail
 refine Qbu ?_;intro W hW;have hRW:Blk W (w.heap.size+1) 26 #[.slice A n c,.slice B m d,.slice C k e]:=by rw [hW];exact (hR5.far (by simp) _).far (by simp) _
 have hXW:Blk W (w.heap.size+1+1) 66 #[.slice A4 n4 m4,.int .i64 5]:=by rw [hW];exact (hX5.set_ 0 _).set_ 1 _
 have hbW:Below w.heap.size w W:=by rw [hW];exact (hb5.setCell (by simp only;omega) _).setCell (by simp only;omega) _
 have hwW:RdW W A4 n4 [((⟨#[103,114,97,112,104]⟩:ByteArray),p)]:=by
  rw [hW];exact (hw5.setFar (w.heap.size+1+1) 0 (.slice A4 n4 m4) (fun b e=>⟨by have:=(hA5 b e).1;omega,by rw [←hz5];exact (hA5 b e).2⟩)).setFar (w.heap.size+1+1) 1 (.int .i64 5) (fun b e=>⟨by have:=(hA5 b e).1;omega,by simpa [World.setCell,←hz5] using (hA5 b e).2⟩)
 clear hW hR5 hX5 hb5 hw5 x0 x1;obtain ⟨r0,r1,r2⟩:=hRW.three;obtain ⟨x0,x1,_,_⟩:=hXW.two;refine bodyPost_ret (v:=.tuple #[.agg #[.slice A n c,.slice B m d,.slice C k e],.agg #[.slice A4 n4 m4,.int .i64 5]]) (by simp [results,results43,go_sem,r0,r1,r2,x0,x1]) rfl ?_;exact ⟨_,_,_,rfl,hwW,by omega,hbW⟩):p:=h
theorem Kag {p:Prop} (h:p:=by
 intro X c W4 ho hg hat;rw [Yz,List.nil_append] at ho;have h4:=h3.growA ho hg hat;refine hK.out _ _ h4.bel (fun _=>?_);clear hK K ho hg hat h3;simp only [Act.put,Yi,Yj,Yk,Yz];refine Qae (rs:=[8,9]) (by kernel_rfl) (by simp) ?_;refine Qaz.cons (o:=_) rfl (fun K hK=>?_) (Qaz.cons (o:=_) rfl (fun K hK=>?_) (Qaz.nil))
 · go_simp
   refine hK.out _ _ h4.bel (fun _=>?_);have h5:=h4;obtain ⟨W5,rfl⟩:∃ X,X=W4:=⟨_,rfl⟩;clear hK K h4
   try simp only [Act.put,Yi,Yj,Yk]
   refine Qae (rs:=[9]) (by kernel_rfl) (by simp) ?_;refine Qaz.cons (o:=_) rfl (fun K hK=>?_) (Qaz.nil);go_simp;refine hK.out _ _ h5.newN.bel (fun _=>?_);have h6:=h5.newN;obtain ⟨W6,q⟩:∃ X,X=W5.alloc (.cells #[.slice none 0 0,.slice none 0 0,.slice none 0 0] 26):=⟨_,rfl⟩;obtain ⟨g9,q2⟩:∃ g,g=W5.heap.size:=⟨_,rfl⟩;rw [←q] at h6 ⊢
   try rw [←q2] at h6 ⊢
   clear hK K q q2 h5
   try simp only [Act.put,Yi,Yj,Yk]
   exact ⟨by kernel_rfl,hC.out (.slice (some ⟨g0,0,none⟩) 0 0) _ (.slice (some ⟨g4,0,none⟩) 0 0) _ _ _ _ (CpG.of h6)⟩
 · go_simp
   refine hK.out _ _ h4.newN.bel (fun _=>?_);have h5:=h4.newN;obtain ⟨W5,q⟩:∃ X,X=W4.alloc (.cells #[.slice none 0 0,.slice none 0 0,.slice none 0 0] 26):=⟨_,rfl⟩;obtain ⟨g9,q2⟩:∃ g,g=W4.heap.size:=⟨_,rfl⟩;rw [←q] at h5 ⊢
   try rw [←q2] at h5 ⊢
   clear hK K q q2 h4
   try simp only [Act.put,Yi,Yj,Yk]
   refine Qae (rs:=[8]) (by kernel_rfl) (by simp) ?_;refine Qaz.cons (o:=_) rfl (fun K hK=>?_) (Qaz.nil);go_simp;refine hK.out _ _ h5.bel (fun _=>?_);have h6:=h5;obtain ⟨W6,rfl⟩:∃ X,X=W5:=⟨_,rfl⟩;clear hK K h5
   try simp only [Act.put,Yi,Yj,Yk]
   exact ⟨by kernel_rfl,hC.out (.slice (some ⟨g0,0,none⟩) 0 0) _ (.slice (some ⟨g4,0,none⟩) 0 0) _ _ _ _ (CpG.of h6)⟩):p:=h
theorem Kah {p:Prop} (h:p:=by
 have HYY:=Zh hyW;have hownY:=hyW.1;clear hyW;refine Zk 5 (fun K hK=>?_);with_reducible refine Qaj (some 18) rfl rfl (.tmp 14) (.tmp 17) 27 rfl 61 _ 1 24 Qgy underlying27 rfl (by omega) rfl rfl hownY hrdW (Qck _ _ _) (by omega) (by omega) hWsz ?_
 intro A' c' w' hown' hg hat;have hb5:Below (w.heap.size+2) wr w':=Zo hbW hg (hownY.mono (by omega)) (by omega);have hb6:Below w.heap.size w w':=Zo hblW hg (hownY.mono (by omega)) (by omega);have hJ':=hJW.grown hg (hownY.ne (by omega));have hR':=hRW.grown hg (hownY.ne (by omega));have hK':=hKW.grown hg (hownY.ne (by omega));have HYN:=Zh (HYY.out.push hown' hg hat hcW hclW hcapW hcapM);clear hownY hrdW hbW hblW hJW hRW hKW hg hclW hcW hown' hat HYY hbrW hcapW hcapM;refine hK.out _ _ hb5 (fun _=>?_);clear hK K;simp only [Act.put,Yi,Yj,Yk];refine tz 6 19 ?_;have k3':=hK'.cell 0;simp only [Yo,Yn] at k3';have kf':=hK'.frozen 0;refine Zk 7 (fun K hK=>?_);go_simp;refine hK.out _ _ (hb5.setCell (by simp only;omega) _) (fun _=>?_);clear hK K;refine Zd ?_;have HK2:=Zh (hK'.set_ 0 (.slice A' (j+1) c'));have HY2:=Zh (HYN.out.far (Qaa w' (w.heap.size+2) 0 (.slice A' (j+1) c')) (by omega));have HB2:=Zh (show Below w.heap.size w (w'.setCell ⟨w.heap.size+2,0,none⟩ (.slice A' (j+1) c')) from hb6.setCell (by simp only;omega) _)
 have HJ2:=Zh (hJ'.far_ (b:=w.heap.size+2) (o:=0) (by omega) (.slice A' (j+1) c'));have HR2:=Zh (hR'.far_ (b:=w.heap.size+2) (o:=0) (by omega) (.slice A' (j+1) c'));clear hK' k3' kf' hJ' hR'
 go_wp2_with fail
 go_roundw
 case rel=>exact ⟨HB2.out,HJ2.out,HR2.out,j+1,A',c',_,by omega,by go_num,HK2.out,by rw [HN.out];exact HY2.out⟩
 case measure=>simp [intOf];omega):p:=h
theorem Kai {p:Prop} (h:p:=by
 cases h
 go_enter func98,ntmps98
 go_wp2_with fail
 (refine Qab ?_;intro w1 hw1)
 have hb1:Below w.heap.size w w1:=by rw [hw1];exact Qag
 have hR1:Blk w1 (w.heap.size+1) 193 #[.int .i64 0,.int .i64 0,.slice none 0 0]:=by rw [hw1];exact Qay
 have hz1:w.heap.size+2≤w1.heap.size:=by rw [hw1];simp
 clear hw1;with_reducible refine (Qik _ _ _).mono ?_
 rintro r w2 ⟨rfl,hc,hb⟩;have hb2:=Zb hb1 hb;have hR2:=hR1.below hb hR1.lt;clear hb hR1 hb1;obtain ⟨r0,r1,r2⟩:=hR2.three;have fr0:=hR2.frozen 0;have fr1:=hR2.frozen 1;have fr2:=hR2.frozen 2
 go_wp2_with fail
 refine bodyPost_ret (v:=.tuple #[.agg #[.int .i64 0,.int .i64 0,.slice none 0 0],Qwz w1.heap.size 0]) (by simp [results,results98,go_sem,r0,r1,r2]) rfl ?_;exact ⟨_,rfl,Qgc (((hc.far (by simp only;omega) _).far (by simp only;omega) _).far (by simp only;omega) _),((hb2.setCell (by simp only;omega) _).setCell (by simp only;omega) _).setCell (by simp only;omega) _⟩):p:=h
theorem Kaj {p:Prop} (h:p:=by
 first | exact ⟨Qby.no (by decide),Qag⟩ | exact ⟨Qcy.no (Wg.mono (B:=w5.heap.size) (Wg.setCell (Wg.setCell hg4 hB5.lt _) hB5.lt _) hb5.size) (by decide),Qag⟩):p:=h
theorem Kak {p:Prop} (h:p:=by
 have hgw:w.heap.size+2≤gt:=by omega
 have hb7:Below w.heap.size w w7a:=by rw [hw7];exact ((hb6.setCell (by simp only;omega) _).setCell (by simp only;omega) _).setCell (by simp only;omega) _
 have hgr7:GrO w7a FM2 g M2:=hgr6.keep hS7.2 (fun b hb hl=>hS7.1 b (fun e=>hFgt (by rw [←e];exact hb)) hl);have hnr7:Qbg (msk w7a (fun b=>¬FM2 b∧b≠gt∧b≠w.heap.size)) A5 B5 C5 n m k M2:=hnr6.le (Qbb.msk (fun b hb hl=>hS7.1 b hb.2.1 hl));have hX7:Blk w7a w.heap.size 26 #[.slice A' n c',.slice B' m d',.slice C' k e']:=hk7.blk hX' (fun hf=>by have:=HF3.out _ hf;omega);have hY7:Blk w7a (w.heap.size+1) 29 #[.slice Q L cq]:=hk7.blk hY (fun hf=>by have:=HF3.out _ hf;omega)
 have HK7:=Zh (show Qbo (fun b=>¬F b∧u5.heap.size≤b) w5 w7a from ⟨fun b hb hl=>(hk7.1 b (fun hf=>by
  rcases HF0.out b hf with h|h
  · exact hb.1 h
  · omega) (Yu hl HKZ.out.2)).trans (HKZ.out.1 b hb hl),Yx HKZ.out.2 hk7.2⟩)
 refine Zk 11 (fun K hK=>?_);go_simp;rw [←hw7];refine hK.out _ _ hk7 (fun _=>?_);clear hK K hw7 hk6 hgt6 hgr6 hnr6 hb6 k0 k1 k2 fk0 fk1 fk2;refine tz 12 17 ?_;refine Zd ?_;obtain ⟨k0,k1,k2⟩:=hgt7.three;obtain ⟨x0,x1,x2⟩:=hX7.three;have fx0:=hX7.frozen 0;have fx1:=hX7.frozen 1;have fx2:=hX7.frozen 2;have HX7:=Zh hX7;have HY7:=Zh hY7;have HGR7:=Zh hgr7;have HNR7:=Zh hnr7;have HB7:=Zh hb7;have HF36:=Zh hF36;clear hX7 hY7 hgr7 hnr7 hb7 hk7 hS7 hgt7 HSX HDO hF36
 go_wp2_with fail
 go_roundw
 case rel =>
  have hS8:Qbo (fun b=>b≠w.heap.size) w7a (((w7a.setCell ⟨w.heap.size,0,none⟩ (.slice A5 n c5)).setCell ⟨w.heap.size,1,none⟩ (.slice B5 m d5)).setCell ⟨w.heap.size,2,none⟩ (.slice C5 k e5)):=(((Qbo.refl _ _).set (by simp) _ _).set (by simp) _ _).set (by simp) _ _;refine ⟨((HB7.out.setCell (Zn _) _).setCell (Zn _) _).setCell (Zn _) _,hS8.blk HY7.out (by omega),i+1,M2,FM2,A5,B5,C5,c5,d5,e5,by omega,by go_num,((HX7.out.set_ 0 _).set_ 1 _).set_ 2 _,HGR7.out.keep hS8.2 (fun b hb hl=>hS8.1 b (fun e=>by have:=HF36.out b hb;omega) hl),HF36.out,HF2.out,HNR7.out.le (fun a v hc=>?_),hfew5,⟨fun b hb hl=>(hS8.1 b (by have:=hb.2;omega) (Yu hl HK7.out.2)).trans (HK7.out.1 b hb hl),Yx HK7.out.2 hS8.2⟩,HA2⟩;obtain ⟨h1,h3⟩:=Qal.1 hc;exact Qal.2 ⟨⟨h1.1,h1.2.2⟩,by rw [World.cell?_of_block (hS8.1 _ h1.2.2 (Qah h3))];exact h3⟩
 case measure=>simp [intOf];omega):p:=h
set_option maxRecDepth 100000 in
theorem Kal {p:Prop} (h:p:=by
 have hS:Qbo (fun b=>b≠w.heap.size+1+1) w5 W:=by
  rw [hW];exact (((Qbo.refl _ _).set (by simp) _ _).set (by simp) _ _).set (by simp) _ _
 have hbS:Below (w.heap.size+1+1) w5 W:=by
  rw [hW];exact (((Zr (w.heap.size+1+1) w5).setCell (p:=⟨w.heap.size+1+1,0,none⟩) (Zn _) (.slice A' n c')).setCell (p:=⟨w.heap.size+1+1,1,none⟩) (Zn _) (.slice B' m d')).setCell (p:=⟨w.heap.size+1+1,2,none⟩) (Zn _) (.slice C' k e')
 clear hW hT55 hT65 hT85 hT95;obtain ⟨r0,r1,r2⟩:=hRW.three;refine bodyPost_ret (v:=.tuple #[.agg #[.slice A' n c',.slice B' m d',.slice C' k e'],.bool true]) (by simp [results,results12,go_sem,r0,r1,r2]) rfl ?_;have e8:=HG8.out
 have keep:∀ b,¬F b→b≠w.heap.size+1+1→b<w3.heap.size→W.heap[b]?=w3.heap[b]?:=fun b h1 h2 h3 =>
  ((hS.1 b h2 (by omega)).trans (HB5.out.block b (by omega))).trans (HK4.out b h1 h3)
 refine ⟨A',B',C',c',d',e',F',rfl,(HGRN.out.below HB5.out).keep hS.2 (fun b hb hl=>hS.1 b (fun e=>?_) hl),HNET.out.le (fun x v hc=>?_),HF'.out,fun b hb=>?_,fun b hb hl=>?_,?_,fun B0 h1 h2=>?_⟩
 · rcases HFF.out b hb with h|h
   · have:=HF.out b h;omega
   · omega
 · obtain ⟨h1,h2⟩:=Qal.1 hc
   have h3:=Qah h2
   have hnF:¬F x.block:=by
    rcases h1 with h1|h1
    · exact h1.1.1
    · exact nF _ (by omega)
   have hg0':G0 x.block∨w.heap.size≤x.block:=by
    rcases h1 with h1|h1
    · exact .inl h1.1.2
    · exact .inr (by omega)
   have hne:x.block≠w.heap.size+1+1:=by
    rcases h1 with h1|h1
    · have:=h1.2;omega
    · omega
   refine Qal.2 ⟨⟨fun h=>?_,hg0'⟩,?_⟩
   · rcases HFF.out _ h with h|h
     · exact hnF h
     · omega
   · rw [World.cell?_of_block ((keep _ hnF hne (by omega)).trans (HB3.out.block _ h3))]
     exact h2
 · rcases HFF.out b hb with h|h
   · exact .inl h
   · exact .inr (by omega)
 · exact (keep b hb (by omega) (by omega)).trans (hb3'.block b hl)
 · have:=hS.2;have:=hb3'.size;omega
 · exact (((hb3'.mono h1).trans (HBL4.out B0 (by omega) h2)).trans (HB5.out.mono (by omega))).trans (hbS.mono (by omega))):p:=h
theorem Kam {p:Prop} (h:p:=by
 try simp only [Act.put,Yi,Yj,Yk]
 refine Qae (rs:=[11]) (by kernel_rfl) (by simp) ?_;refine Qaz.cons (o:=_) rfl (fun K hK=>?_) (Qaz.nil);go_simp;have u5:=u4.newT (.int .i64 t.ins) (.int .i64 t.outs) (.slice R2 n' rc);refine hK.out _ _ (hTa.below u5.bel hTa.lt) (fun _=>?_);obtain ⟨U5,q⟩:∃ X,X=U4.alloc (.cells #[.int .i64 t.ins,.int .i64 t.outs,.slice R2 n' rc] 122):=⟨_,rfl⟩;obtain ⟨g11,q2⟩:∃ g,g=U4.heap.size:=⟨_,rfl⟩;rw [←q] at u5 ⊢
 try rw [←q2] at u5 ⊢
 clear hK K q q2 u4
 try simp only [Act.put,Yi,Yj,Yk]
 exact ⟨by kernel_rfl,hC.out _ (.slice (some ⟨g6,0,none⟩) 0 0) _ _ _ _ (CyG.of u5)⟩):p:=h
set_option maxRecDepth 100000 in
theorem Kan {p:Prop} (h:p:=by
 obtain ⟨A0,c0,k1,hown0⟩:=h5 u l hl;rw [hcs] at k1
 cases k1
 have hgA:Qac A≠some g:=hown0.ne h2;have hgA':Qac A'≠some g:=hown.ne h2;refine ⟨by rw [Yq];exact h1,h2,_,(h3.grown hg hgA).set_ u (.slice A' (l.length+1) c'),by simpa using h4,fun v l' hl'=>?_,fun v v' X m d X' m' d' hne e1 e2=>?_⟩
 · by_cases e:u=v
   · subst e
     rw [Yg hu] at hl'
     cases hl'
     refine ⟨A',c',by rw [Array.getElem?_setIfInBounds_self_of_lt (by omega),Yp];rfl,?_⟩;rw [Yp,Qbr];exact hown.far (Qaa _ _ _ _) (.inr hgA')
   · rw [Yh e] at hl'
     obtain ⟨X,d,k1,k2⟩:=h5 v l' hl';refine ⟨X,d,by rw [Array.getElem?_setIfInBounds_ne e];exact k1,(k2.far hg (h6 u v _ _ _ _ _ _ e hcs k1).far).far (Qaa _ _ _ _) (.inr (k2.ne h2))⟩
 · have old:∀ v X m d,u≠v→cs[v]?=some (.slice X m d)→Dj A' X:=fun v X m d hv e3=>by
    have hv2:=(Array.getElem?_eq_some_iff.1 e3).1;obtain ⟨X0,d0,k1,k2⟩:=h5 v _ (Zg (show v<ls.length by omega))
    rw [e3] at k1
    cases k1
    exact (h6 u v _ _ _ _ _ _ hv hcs e3).next k2 hat
   by_cases a1:u=v
   · subst a1
     rw [Array.getElem?_setIfInBounds_self_of_lt (by omega)] at e1
     cases e1
     rw [Array.getElem?_setIfInBounds_ne hne] at e2;exact old v' X' m' d' hne e2
   · rw [Array.getElem?_setIfInBounds_ne a1] at e1
     by_cases a2:u=v'
     · subst a2
       rw [Array.getElem?_setIfInBounds_self_of_lt (by omega)] at e2
       cases e2
       exact (old v X m d a1 e1).symm
     · rw [Array.getElem?_setIfInBounds_ne a2] at e2
       exact h6 v v' X m d X' m' d' hne e1 e2):p:=h
theorem Kao {p:Prop} (h:p:=by
 try rw [←q2] at h2 ⊢
 clear hK K q q2 h1
 try simp only [Act.put,Yi,Yj,Yk]
 refine Qae (rs:=[3,9]) (by kernel_rfl) (by simp) ?_;refine Qaz.cons (o:=_) rfl (fun K hK=>?_) (Qaz.cons (o:=_) rfl (fun K hK=>?_) (Qaz.nil))
 · with_reducible refine Qaj (some 9) rfl rfl (.tmp 6) (.tmp 8) 22 rfl 124 _ 3 24 Qgb underlying22 rfl (by omega) rfl rfl h2.v (HV.out W2 h2.bel) (Qaq _) (by omega) (by omega) h2.bel.size ?_
   intro X c W3 ho hg hat;rw [Yz,List.nil_append] at ho;have h3:=h2.growV ho hg hat;refine hK.out _ _ h3.bel (fun _=>?_);clear hK K ho hg hat h2;simp only [Act.put,Yi,Yj,Yk,Yz];refine Qae (rs:=[7,9]) (by kernel_rfl) (by simp) ?_;refine Qaz.cons (o:=_) rfl (fun K hK=>?_) (Qaz.cons (o:=_) rfl (fun K hK=>?_) (Qaz.nil))
   · with_reducible refine Qaj (some 13) rfl rfl (.tmp 10) (.tmp 12) 23 rfl 119 _ 3 24 Qej underlying23 rfl (by omega) rfl rfl h3.a (HA.out W3 h3.bel) (Qaq _) (by omega) (by omega) h3.bel.size ?_
     exact Kag
   · go_simp
     refine hK.out _ _ h3.newN.bel (fun _=>?_);have h4:=h3.newN;obtain ⟨W4,q⟩:∃ X,X=W3.alloc (.cells #[.slice none 0 0,.slice none 0 0,.slice none 0 0] 26):=⟨_,rfl⟩;obtain ⟨g9,q2⟩:∃ g,g=W3.heap.size:=⟨_,rfl⟩;rw [←q] at h4 ⊢
     exact Kae
 · go_simp
   refine hK.out _ _ h2.newN.bel (fun _=>?_);have h3:=h2.newN;obtain ⟨W3,q⟩:∃ X,X=W2.alloc (.cells #[.slice none 0 0,.slice none 0 0,.slice none 0 0] 26):=⟨_,rfl⟩;obtain ⟨g9,q2⟩:∃ g,g=W2.heap.size:=⟨_,rfl⟩;rw [←q] at h3 ⊢
   exact Kab):p:=h
theorem Kap {p:Prop} (h:p:=by
 try rw [←q2] at h2 ⊢
 clear hK K q q2 h1
 try simp only [Act.put,Yi,Yj,Yk]
 refine Qae (rs:=[3,4]) (by kernel_rfl) (by simp) ?_;refine Qaz.cons (o:=_) rfl (fun K hK=>?_) (Qaz.cons (o:=_) rfl (fun K hK=>?_) (Qaz.nil))
 · with_reducible refine Qaj (some 9) rfl rfl (.tmp 6) (.tmp 8) 22 rfl 124 _ 3 24 Qgb underlying22 rfl (by omega) rfl rfl h2.v (HV.out W2 h2.bel) (Qaq _) (by omega) (by omega) h2.bel.size ?_
   intro X c W3 ho hg hat;rw [Yz,List.nil_append] at ho;have h3:=h2.growV ho hg hat;refine hK.out _ _ h3.bel (fun _=>?_);clear hK K ho hg hat h2;simp only [Act.put,Yi,Yj,Yk,Yz];refine Qae (rs:=[4]) (by kernel_rfl) (by simp) ?_;refine Qaz.cons (o:=_) rfl (fun K hK=>?_) (Qaz.nil);go_simp;refine hK.out _ _ h3.newA.bel (fun _=>?_);have h4:=h3.newA;obtain ⟨W4,q⟩:∃ X,X=W3.alloc (.cells #[] 119):=⟨_,rfl⟩;obtain ⟨g4,q2⟩:∃ g,g=W3.heap.size:=⟨_,rfl⟩;rw [←q] at h4 ⊢
   exact Kae
 · go_simp
   refine hK.out _ _ h2.newA.bel (fun _=>?_);have h3:=h2.newA;obtain ⟨W3,q⟩:∃ X,X=W2.alloc (.cells #[] 119):=⟨_,rfl⟩;obtain ⟨g4,q2⟩:∃ g,g=W2.heap.size:=⟨_,rfl⟩;rw [←q] at h3 ⊢
   exact Kab):p:=h
theorem Kaq {p:Prop} (h:p:=by
 have hxl:xs.length=ls.length*3:=by rw [h.1.1,h.2.1]
 have new:∀ Y:Option Addr,(∀ g,Qac Y=some g→B≤g∧g<W.heap.size∧Qac A≠some g)→∀ g,Qac Y=some g→B≤g∧g<w'.heap.size∧Qac A'≠some g:=fun Y hY g e=>by
  obtain ⟨k0,k1,k2⟩:=hY g e;refine ⟨k0,Yu k1 hg.size,fun e2=>?_⟩
  rcases hat with hat|hat
  · exact k2 (by rw [←hat];exact e2)
  · rw [hat] at e2
    injection e2 with e2
    omega
 refine ⟨hown,by simp [h.2.1],fun j t' hl=>?_⟩
 rcases Nat.lt_trichotomy j ls.length with hj|hj|hj
 · rw [Yc hj] at hl
   obtain ⟨A2,n2,c2,p1,p2,p3,k2,k3,k4,k5⟩:=h.2.2 j t' hl;exact ⟨A2,n2,c2,by rw [Yc (by omega)];exact p1,by rw [Yc (by omega)];exact p2,by rw [Yc (by omega)];exact p3,k2.grownN hg (fun g e=>(k3 g e).2.2),new A2 k3,k4,k5⟩
 · subst hj
   rw [Yb (Zn _),Yy] at hl
   cases hl
   refine ⟨R,m,d,?_,?_,?_,hr.grownN hg (fun g e=>(hne g e).2.2),new R hne,h4,h5⟩
   · rw [←hxl,Yb (Zn _),Yy];rfl
   · rw [←hxl,Yb (by omega),Nat.add_sub_cancel_left];rfl
   · rw [←hxl,Yb (by omega),Nat.add_sub_cancel_left];rfl
 · rw [Yd (by simp;omega)] at hl
   cases hl):p:=h
set_option maxRecDepth 100000 in
theorem Kar {p:Prop} (h:p:=by
 obtain ⟨k,hk,rfl,hj⟩:=hrel;have HJ:=Zh hj;clear hj
 by_cases hlt:k<n
 · obtain ⟨b,o,x,rfl,hx,hc⟩:=HR.out.at_ hlt
   have i1:(0:Int)≤(k:Int):=by omega
   have i2:(k:Int)<(n:Int):=by omega
   by_cases e:x=v
   · have HP:=Zh (Qok (e▸hx) HJ.out)
     have e1:(x == v)=true:=by simpa using e
     have e2:(v == x)=true:=by simpa using e.symm
     clear e hx
     go_wp2_with fail
     go_ret
     exact ⟨Qcf HP.out.symm,rfl⟩
   · have e1:(x == v)=false:=by simpa using e
     have e2:(v == x)=false:=by simpa using (fun h:v=x=>e h.symm)
     have HX:=Zh hx;have HE:=Zh e;clear e hx
     go_wp2_with fail
     go_round
     case rel=>exact ⟨k+1,by omega,by go_num,fun j y hj hy=>by
      by_cases ej:j=k
      · subst ej
        rw [HX.out] at hy
        cases hy
        exact HE.out
      · exact HJ.out j y (by omega) hy⟩
     case measure=>simp [intOf];omega
 · obtain rfl:n=k:=by omega
   have HP:=Zh (Qcq (l:=l) (v:=v) (fun hm=>by
    obtain ⟨j,hj⟩:=Yr hm;exact HJ.out j v (by rw [←HL.out];exact (Zs hj).1) hj rfl))
   go_wp2_with fail
   go_ret
   exact ⟨Qcf HP.out.symm,rfl⟩):p:=h
theorem Kas {p:Prop} (h:p:=by
 clear hw5;with_reducible refine (Qba _ _ _ _).mono ?_
 rintro e w2 ⟨⟨A4,n4,m4,rfl,hg4⟩,hb⟩;have hB2:=Blk.below hB5 hb hB5.lt;obtain ⟨c0,c1,f0,f1⟩:=hB2.two;have hb2:Below w.heap.size w w2:=Zb hb5 hb
 go_wp2_with fail
 refine bodyPost_ret (v:=.agg #[.slice A4 n4 m4,.int .i64 1]) (by simp [results,results170,go_sem,c0,c1]) rfl ?_
 exact Kaj):p:=h
theorem Kat {p:Prop} (h:p:=by
 try simp only [Act.put,Yi,Yj,Yk]
 refine Qae (rs:=[9]) (by kernel_rfl) (by simp) ?_;refine Qaz.cons (o:=_) rfl (fun K hK=>?_) (Qaz.nil);with_reducible refine Qaj (some 36) rfl rfl (.tmp 33) (.tmp 35) 36 rfl 2 _ 1 8 Qhk underlying36 rfl (by omega) rfl rfl u2.r (HRA.out U2 u2.bel) (Qao _) (by omega) (by omega) u2.bel.size ?_
 intro R2 rc U3 ho hg _;rw [Yz,List.nil_append] at ho;have u3:=u2.growR ho hg;refine hK.out _ _ (hTa.below u3.bel hTa.lt) (fun _=>?_);clear hK K ho hg u2;simp only [Act.put,Yi,Yj,Yk,Yz];refine Qae (rs:=[10]) (by kernel_rfl) (by simp) ?_;refine Qaz.cons (o:=_) rfl (fun K hK=>?_) (Qaz.nil);go_simp;refine hK.out _ _ (hTa.below u3.bel hTa.lt) (fun _=>?_);have u4:=u3;obtain ⟨U4,rfl⟩:∃ X,X=U3:=⟨_,rfl⟩;clear hK K u3
 exact Kam):p:=h
theorem Kau {p:Prop} (h:p:=by
 have hown:=HC5.out.a;have hsz:w.heap.size+1+1+1+1+1+1≤W5.heap.size:=HC5.out.box.lt;have HW5:=Zh hW5;clear hb5 hW5 hz4
 go_wp2_with (at_builtin;rw [←HW4.out,←HW5.out];with_reducible refine Qan rfl (.tmp 34) (.tmp 39) 23 rfl 119 _ 3 24 infoCA underlying23 rfl (by omega) rfl rfl hown hrd (Qaq _) (by omega) (by omega) hsz ?_)
 intro A' d' w6 ho6 hg6 hat6;have hB6:=HC5.out.box.grown hg6 (hown.ne (by omega));obtain ⟨y0,y1,y2⟩:=hB6.three;have fy1:=hB6.frozen 1;have HS6:=Zh (HC5.out.pushA hg6 (by rw [HTA.out];exact ho6) hat6);clear hown hrd hsz ho6 hg6 hat6 hB6 HC5 x0 x1 x2 fx0 fx1 x4l
 go_wp2_with fail
 go_roundw
 case rel=>exact ⟨i+1,j+1,V',A',c',d',by omega,by have:=HJ.out;omega,by go_num,HS6.out⟩
 case measure=>simp [intOf];omega):p:=h
theorem Kav {p:Prop} (h:p:=by
 clear hw5;with_reducible refine (Qba _ _ _ _).mono ?_
 rintro e w2 ⟨⟨A4,n4,m4,rfl,hg4⟩,hb⟩;have hB2:=Blk.below hB5 hb hB5.lt;obtain ⟨c0,c1,f0,f1⟩:=hB2.two;have hb2:Below w.heap.size w w2:=Zb hb5 hb
 go_wp2_with fail
 refine bodyPost_ret (v:=.agg #[.slice A4 n4 m4,.int .i64 4]) (by simp [results,results134,go_sem,c0,c1]) rfl ?_
 exact Kaj):p:=h
theorem Kaw {p:Prop} (h:p:=by
 unfold Qll
 go_enter func45,ntmps45
 go_wp2_with fail
 with_reducible refine HGA.out.mono ?_
 rintro r w' ⟨rfl,rfl⟩
 go_wp2_with fail
 go_ret
 refine ⟨⟨_,rfl,w.heap.size,0,Qnc 5,rfl,?_,?_,?_,rfl⟩,Qag⟩
 all_goals simp):p:=h
theorem Kax {p:Prop} (h:p:=by
 refine ⟨by simp,hg,_,h,by simp [Qbv],fun v l hl=>?_,fun v v' A m c A' m' c' _ h1 _=>?_⟩
 · obtain ⟨hv,e⟩:=Zs hl
   simp at e;subst e;refine ⟨none,0,?_,Own.nil _ _ _ _⟩;simp at hv;simp [Qbv,hv]
 · have e:=(Array.getElem?_eq_some_iff.1 h1).2
   simp [Qbv] at e;obtain ⟨rfl,_,_⟩:=e;exact .inl rfl):p:=h
theorem Kay {p:Prop} (h:p:=by
 clear hin hp hy hne e1 e2 d0 d1 d2 hz cz hqc hcl hlen
 go_wp2_with fail
 refine wp_region_held_drew (S:=fun V=>Below w3.heap.size w3 V) (by kernel_rfl) (Zr _ _).drew (fun _=>?_);refine tz 0 22 ?_;refine tz 1 23 ?_;refine tz 2 24 ?_;refine tz 3 25 ?_;refine tz 4 26 ?_;refine tz 5 27 ?_;refine tz 6 28 ?_;refine tz 7 29 ?_;refine tz 8 30 ?_;refine tz 9 31 ?_;refine tz 10 32 ?_;refine tz 11 33 ?_;refine tz 12 34 ?_;refine tz 13 35 ?_;refine tz 14 8 ?_;refine Zd ?_
 go_wp2_with fail
 go_ret
 rw [HZ.out,HZZ.out];exact ⟨rfl,HB3.out.drew⟩):p:=h
theorem Kaz {p:Prop} (h:p:=by
 go_wp2
 go_ret
 exact ⟨Qbh (by first|(simp;done)|(simp;omega)),Qag⟩):p:=h
theorem Kba {p:Prop} (h:p:=by
 have h1:=hloW g hg;refine ⟨by omega,h1.2,fun e=>?_⟩;have h2:=(hown.1.lt g e).2;omega):p:=h
theorem Kbb {p:Prop} (h:p:=by
 go_wp2_with fail
 refine bodyPost_ret (v:=.tuple #[.int .i64 (-1),.int .i64 (-1)]) (by simp [results,results115,go_sem]) rfl ?_;exact ⟨HE.out,Qag⟩):p:=h
theorem Kbc {p:Prop} (h:p:=by
 go_wp2_with fail
 with_reducible refine (Qfc _ _ [] 5 _ (Qij _ 5)).mono ?_
 rintro r w' ⟨v,rfl,hc,hb⟩;obtain ⟨tv,xv,rfl⟩:=Qbj hc;have HCH:=Zh hc;clear hc
 go_wp2_with fail
 go_ret
 exact ⟨_,rfl,HCH.out,Qag⟩):p:=h
theorem Kbd {p:Prop} (h:p:=by
 go_ret
 exact ⟨rfl,rfl⟩):p:=h
theorem Kbe {p:Prop} (h:p:=by
 try rw [←q2] at h2 ⊢
 clear hK K q q2 h1
 try simp only [Act.put,Yi,Yj,Yk]
 refine Qae (rs:=[0]) (by kernel_rfl) (by simp) ?_;refine Qaz.cons (o:=_) rfl (fun K hK=>?_) (Qaz.nil);go_simp;refine hK.out _ _ h2.newV.bel (fun _=>?_);have h3:=h2.newV;obtain ⟨W3,q⟩:∃ X,X=W2.alloc (.cells #[] 124):=⟨_,rfl⟩;obtain ⟨g0,q2⟩:∃ g,g=W2.heap.size:=⟨_,rfl⟩;rw [←q] at h3 ⊢
 exact Kab):p:=h
theorem Kbf {p:Prop} (h:p:=by
 go_wp2_with fail
 with_reducible refine HSW.out.mono ?_
 rintro e w'' ⟨rfl,hw2,ha2⟩;have HW2:=Zh hw2;have HA2:=Zh (HA'.out.trans ha2);clear hw2 ha2 HW' HA' HSW
 go_wp2_with fail
 go_roundw
 case rel=>exact ⟨l,_,_,rfl,by omega,HW2.out,HST.out.1,by have:=HST.out.2;rw [Qfd,hlr] at this;exact this,fun k=>(HKM.out k).trans (HK.out k),HA2.out⟩
 case measure=>simp [intOf];omega):p:=h
theorem Kbg {p:Prop} (h:p:=by
 clear hown3 hrd hba hsz ho8 hg8
 go_wp2_with fail
 go_roundw
 case rel=>exact ⟨i+1,A3,c3,by omega,by go_num,by rw [HN1.out],by rw [HN1.out];exact HO8.out,hb8⟩
 case measure=>simp [intOf];omega):p:=h
theorem Kbh {p:Prop} (h:p:=by
 go_wp2_with fail
 go_ret
 rw [HZ.out];exact ⟨rfl,HB.out⟩):p:=h
theorem Kbi {p:Prop} (h:p:=by
 clear hw5;with_reducible refine (Qba _ _ _ _).mono ?_
 rintro e w2 ⟨⟨A4,n4,m4,rfl,hg4⟩,hb⟩;have hB2:=Blk.below hB5 hb hB5.lt;obtain ⟨c0,c1,f0,f1⟩:=hB2.two;have hb2:Below w.heap.size w w2:=Zb hb5 hb
 go_wp2_with fail
 refine bodyPost_ret (v:=.agg #[.slice A4 n4 m4,.int .i64 1]) (by simp [results,results134,go_sem,c0,c1]) rfl ?_
 exact Kaj):p:=h
theorem Kbj {p:Prop} (h:p:=by
 clear hw5;with_reducible refine (Qba _ _ _ _).mono ?_
 rintro e w2 ⟨⟨A4,n4,m4,rfl,hg4⟩,hb⟩;have hB2:=Blk.below hB5 hb hB5.lt;obtain ⟨c0,c1,f0,f1⟩:=hB2.two;have hb2:Below w.heap.size w w2:=Zb hb5 hb
 go_wp2_with fail
 refine bodyPost_ret (v:=.agg #[.slice A4 n4 m4,.int .i64 9]) (by simp [results,results134,go_sem,c0,c1]) rfl ?_
 exact Kaj):p:=h
theorem Kbk {p:Prop} (h:p:=by
 clear hw5;with_reducible refine (Qba _ _ _ _).mono ?_
 rintro e w2 ⟨⟨A4,n4,m4,rfl,hg4⟩,hb⟩;have hB2:=Blk.below hB5 hb hB5.lt;obtain ⟨c0,c1,f0,f1⟩:=hB2.two;have hb2:Below w.heap.size w w2:=Zb hb5 hb
 go_wp2_with fail
 refine bodyPost_ret (v:=.agg #[.slice A4 n4 m4,.int .i64 4]) (by simp [results,results86,go_sem,c0,c1]) rfl ?_
 exact Kaj):p:=h
theorem Kbl {p:Prop} (h:p:=by
 obtain ⟨h1,h2,cs,h3,h4,h5,h6⟩:=h;have hl:ls[u]?=some ls[u]:=Zg (by omega);obtain ⟨A,c,k1,k2⟩:=h5 u _ hl;exact ⟨A,c,_,hl,by rw [h3.cell];exact k1,h3.frozen u,k2⟩):p:=h
theorem Kbm {p:Prop} (h:p:=by
 go_loop [16] (fun q=>q=.int .i64 0) (fun _=>0)
 case atStart=>rfl
 case round =>
  subst hrel
  go_wp2_with fail
  all_goals
   go_ret
   exact ⟨Qcf HC.out.symm,Zb hbw3 hb99⟩):p:=h
theorem Kbn {p:Prop} (h:p:=by
 obtain ⟨h1,h2,cs,h3,h4,h5,h6⟩:=h
 exact ⟨h1,h2,cs,h3.below hb h3.lt,h4,fun v l hl=>by
  obtain ⟨A,c,k1,k2⟩:=h5 v l hl;exact ⟨A,c,k1,k2.below hb⟩,h6⟩):p:=h
theorem Kbo {p:Prop} (h:p:=by
 obtain ⟨_,_,cs,k3,_⟩:=hI9';have k3':=k3.grown hg10 (fun e=>by have:=(hRAlt _ e).1;omega);exact ⟨0,by rw [k3'.cell,←k3.cell];exact hrc9,k3'.frozen t,rfl⟩):p:=h
theorem Kbp {p:Prop} (h:p:=by
 clear hw9
 go_wp2_with fail
 go_roundw
 case rel=>exact ⟨j+1,by omega,by go_num,by rw [HLN.out],HB9.out,HX9.out⟩
 case measure=>simp [intOf];omega):p:=h
theorem Kbq {p:Prop} (h:p:=by
 rcases h.2 with ⟨h',_⟩|⟨g',cap',cur,h1,h2,h3,h4,h5,h6,h7⟩
 · cases h'
 · cases h1
   refine Or.inr ⟨g,c,cur.setIfInBounds (0+k) v,rfl,h2,(show Blk W g e cur from h3).set_ (0+k) _,h4,h5,by simpa using h6,?_⟩
   rw [Array.toList_setIfInBounds,List.take_set,h7,Yz]):p:=h
theorem Kbr {p:Prop} (h:p:=by
 go_wp2_with fail
 with_reducible refine HX.out.mono ?_
 rintro e w' ⟨rfl,rfl⟩
 go_wp2_with fail
 with_reducible refine HY.out.mono ?_
 rintro e w' ⟨rfl,rfl⟩
 go_wp2_with fail
 with_reducible refine HZ.out.mono ?_
 rintro e w' ⟨rfl,rfl⟩
 go_wp2_with fail
 exact Kbd):p:=h
theorem Kbs {p:Prop} (h:p:=by
 go_wp2_with fail
 go_ret
 exact ⟨⟨false,rfl,fun h=>by cases h⟩,Qag⟩):p:=h
theorem Kbt {p:Prop} (h:p:=by
 have i1:¬((i:Int)<(i:Int)):=by omega
 go_wp2_with fail
 go_ret
 refine ⟨A',no,⟨c',rfl⟩,?_,Zb hb1 hbl⟩;have:=HOW.out.rds.rdI;rw [Ye (by rw [HM.out];exact Zn _)] at this;rw [HNO.out,Ye (by rw [HM.out];exact Zn _)];exact this):p:=h
theorem Kbu {p:Prop} (h:p:=by
 obtain ⟨cs,h1,h2,h3⟩:=h;exact ⟨⟨_,by rw [h1.cell];exact Array.getElem?_eq_getElem (by omega)⟩,h1.frozen i⟩):p:=h
theorem Kbv {p:Prop} (h:p:=by
 go_wp2_with fail
 go_quiet (fail)
 go_wp2_with fail
 go_roundw
 case rel=>exact ⟨Qbi hbn _,k+1,_,by omega,by go_num,by rw [HNX.out];first|rw [HM.out.1]|rw [HM.out.2],HBN.out.drewN _,HUN.out⟩
 case measure=>simp [intOf];omega):p:=h
theorem Kbw {p:Prop} (h:p:=by
 constructor
 · rintro ⟨⟨a,i⟩,⟨h1,h2⟩,rfl⟩
   exact ⟨i,a,rfl,List.mem_zipIdx_iff_getElem?.1 h1,h2⟩
 · rintro ⟨i,a,rfl,h1,h2⟩
   exact ⟨(a,i),⟨List.mem_zipIdx_iff_getElem?.2 h1,h2⟩,rfl⟩):p:=h
theorem Kbx {p:Prop} (h:p:=by
 rw [World.cell?_alloc_lt _ _ ⟨0,0,none⟩ (by simp),World.cell?_alloc_lt _ _ ⟨0,0,none⟩ hlt];exact hg):p:=h
theorem Kby {p:Prop} (h:p:=by
 go_wp2_with fail
 with_reducible refine (HA.out _ rfl).mono ?_
 rintro e w' ⟨rfl,rfl⟩
 go_wp2
 exact Kbd):p:=h
theorem Kbz {p:Prop} (h:p:=by
 have HE:=Zh hv;clear hv
 go_wp2_with fail
 go_roundw
 case rel=>exact ⟨i+1,A',c',by omega,by go_num,by rw [HN1.out,HNO.out],by rw [HN1.out];exact HOW.out,hbl⟩
 case measure=>simp [intOf];omega):p:=h
theorem Kca {p:Prop} (h:p:=by
 go_wp2_with fail
 with_reducible refine HA.out.mono ?_
 rintro e w' ⟨rfl,rfl⟩
 go_wp2
 exact Kbd):p:=h
theorem Kcb {p:Prop} (h:p:=by
 cases hl'
 have g1:=g _ (List.mem_cons_self ..);have g2:=g _ (List.mem_cons_of_mem _ (List.mem_cons_self ..));rw [Qat hzv,Qat hza] at g1;rw [Qat hzv,Qat hzb] at g2;exact ⟨g1,g2⟩):p:=h
theorem Kcc {p:Prop} (h:p:=by
 clear hw1;with_reducible refine (HHA.out w1).mono ?_
 rintro r w2 ⟨rfl,hb2⟩;have HB2:=Zh (Zb HB1.out hb2);clear hb2
 go_wp2_with fail
 go_ret
 rw [HZ.out];exact ⟨rfl,HB2.out⟩):p:=h
theorem Kcd {p:Prop} (h:p:=by
 go_enter func93,ntmps93
 go_wp2
 go_ret
 exact ⟨Qbh (by first|(simp;done)|(simp;omega)),rfl⟩):p:=h
theorem Kce {p:Prop} (h:p:=by
 go_enter func71,ntmps71
 go_wp2
 refine wp_loop_rounds 1 ?_;rw [rounds_succ]
 go_wp2
 exact Kbd):p:=h
theorem Kcf {p:Prop} (h:p:=by
 go_wp2_with fail
 with_reducible refine HE.out.mono ?_
 unfold Qrd;rintro e w' ⟨rfl,hb⟩;have HB:=Zh (Zb hb1 hb);clear hb hb1
 go_wp2_with fail
 go_ret
 exact ⟨rfl,HB.out⟩):p:=h
theorem Kcg {p:Prop} (h:p:=by
 go_wp2_with fail
 go_roundw
 case rel=>exact ⟨j,by omega,by go_num,HB2.out,by rw [HLV.out,HJ.out,HLN.out],fun _=>HIR.out⟩
 case measure=>(have:=HJ.out;simp [intOf];omega)):p:=h
theorem Kch {p:Prop} (h:p:=by
 go_wp2_with fail
 (try simp only [Exit.inBlock,Exit.then]);refine bodyPost_ret (results_none rfl _ _ _) rfl ?_
 exact ⟨rfl,R',S',HW'.out,HQ.out,HO.out,HK.out,HA'.out⟩):p:=h
theorem Kci {p:Prop} (h:p:=by
 obtain ⟨e,h1,h2⟩:=Rch.bound (n:=N.ar.length) (D:=4294967296) (by omega) (fun p q d h=>⟨h.lt,(h.bd hok).2⟩) h;refine ⟨e,h1,?_⟩;have:=hok.la;unfold MB;omega):p:=h
theorem Kcj {p:Prop} (h:p:=by
 rw [hW];exact (Below.heap_setCell _ _ _ q q2).trans ((Below.heap_setCell _ _ _ q q2).trans ((Below.heap_setCell _ _ _ q q2).trans (Below.heap_setCell _ _ _ q q1)))):p:=h
theorem Kck {p:Prop} (h:p:=by
 go_wp2_with fail
 go_roundw
 case rel=>exact ⟨dl3,more3,a+1,by omega,rfl,by go_num,HW3.out,HF3.out,HLE3.out,HLT3.out,HEX.out⟩
 case measure=>simp [intOf];omega):p:=h
theorem Kcl {p:Prop} (h:p:=by
 refine Qlg (k:=j) (i:=i) ?_ hr hj;unfold Qft;rw [hoj];simp only [Option.elim,Array.any_eq_true',Bool.and_eq_true,beq_iff_eq];exact ⟨e,he,hb,heq⟩):p:=h
theorem Kcm {p:Prop} (h:p:=by
 obtain ⟨h1,h2,cs,h3,h4,h5,h6⟩:=h;have hb:=h3.grown hg hr;exact ⟨_,by rw [hb.cell];exact Array.getElem?_eq_getElem (by omega),hb.frozen u⟩):p:=h
theorem Kcn {p:Prop} (h:p:=by
 go_wp2_with fail
 go_loop [14] (fun q=>q=.int .i64 0) (fun _=>0)
 case atStart=>rfl
 case round =>
  subst hrel
  go_wp2_with fail
  exact Kbm):p:=h
theorem Kco {p:Prop} (h:p:=by
 rw [Yg (by rw [HRL.out];exact htlt)] at hrl;exact (Yv hrl).symm):p:=h
theorem Kcp {p:Prop} (h:p:=by
 rw [World.cell?_of_block (hg10.block w2.heap.size (by have:=hI9.lt;omega) (fun e=>(hxA _ e.symm).2 rfl))];exact hrc9):p:=h
theorem Kcq {p:Prop} (h:p:=by
 have h1:((i:Int)+1)*q≤p*q:=Int.mul_le_mul_of_nonneg_right (by omega) o0;rw [Int.add_mul,Int.one_mul] at h1;omega):p:=h
theorem Kcr {p:Prop} (h:p:=by
 exact ⟨fun p hp s hs=>(key p hp s hs).1,fun p hp s hs=>(key p hp s hs).2.1,fun p hp s hs=>(key p hp s hs).2.2⟩):p:=h
theorem Kcs {p:Prop} (h:p:=by
 clear a0 a1 a2 hi h;obtain ⟨c0,c1,c2,rfl⟩:=Qgu hcl;simp at e0 e1 e2;exact ⟨(n0,n1,n2),by simp [e0,e1,e2]⟩):p:=h
theorem Kct {p:Prop} (h:p:=by
 go_wp2_with fail
 go_ret
 exact ⟨rfl,Qag⟩):p:=h
theorem Kcu {p:Prop} (h:p:=by
 rcases hat with hat|hat
 · exact k2 (by rw [←hat];exact e2)
 · rw [hat] at e2
   injection e2 with e2
   omega):p:=h
theorem Kcv {p:Prop} (h:p:=by
 have:((i*q.toNat+o:Nat):Int)=(k:Int):=by
  rw [hkk]
  push_cast
  rw [Int.toNat_of_nonneg o0]
 exact_mod_cast this):p:=h
theorem Kcw {p:Prop} (h:p:=by
 rw [World.cell?_of_block (hg10.block xb (by have:=HXB.out;omega) (fun e=>(hxA _ e.symm).1 rfl))];exact hcx9):p:=h
theorem Kcx {p:Prop} (h:p:=by
 go_roundw
 case rel=>exact ⟨i+1,by go_num,by omega,HNO.out (by omega)⟩
 case measure=>simp [intOf];omega):p:=h
theorem Kcy {p:Prop} (h:p:=by
 go_ret
 exact ⟨⟨false,rfl,fun h=>by cases h⟩,hbw2⟩):p:=h
theorem Kcz {p:Prop} (h:p:=by
 refine ⟨by omega,by omega,fun e=>?_,fun e=>?_⟩
 · have:=hab b e;omega
 · have:=Qhb e;omega):p:=h
theorem Kda {p:Prop} (h:p:=by
 go_wp2_with fail
 exact Kbd):p:=h
theorem Qah {w:World}{a:Addr}{v:Value}(h:w.cell? a=some v):a.block<w.heap.size:=by
 rcases Nat.lt_or_ge a.block w.heap.size with hlt|hge
 · exact hlt
 · unfold World.cell? at h;rw [Array.getElem?_eq_none hge] at h;cases h
theorem Qbi {B:Nat}{a w:World}(h:Below B a w)(n:Nat):Below B a (w.drewN n):=⟨h.os,h.tape,h.output,h.size,h.block⟩
theorem Zc {B:Nat}{w w':World}(h:Below B w w'){a:Addr}{v:Value}(hB:w.heap.size≤B)(hc:w.cell? a=some v):w'.cell? a=some v :=
 (h.cell (by have:=Qah hc;omega)).trans hc
theorem Zb {w p q:World}(h:Below w.heap.size w p)(g:Below p.heap.size p q):Below w.heap.size w q:=h.trans (g.mono h.size)
theorem Bel.alloc {w p:World}{o:Obj}(h:Below w.heap.size w p):Below w.heap.size w (p.alloc o):=Below.alloc h h.size o
def RdK (k:IntKind)(w:World)(A:Option Addr)(n:Nat)(l:List Int):Prop :=
 l.length=n∧∀ i x,l[i]?=some x→∃ b o,A=some ⟨b,o,none⟩∧w.cell? ⟨b,o+i,none⟩=some (.int k x)
abbrev RdI:=RdK .i64
theorem RdK.at_ {k:IntKind}{w:World}{A:Option Addr}{n i:Nat}{l:List Int}(h:RdK k w A n l)(hi:i<n) :
 ∃ b o x,A=some ⟨b,o,none⟩∧l[i]?=some x∧w.cell? ⟨b,o+i,none⟩=some (.int k x):=by
 have hl:i<l.length:=by rw [h.1];exact hi
 obtain ⟨b,o,e,hc⟩:=h.2 i _ (List.getElem?_eq_getElem hl);exact ⟨b,o,_,e,List.getElem?_eq_getElem hl,hc⟩
theorem RdK.below {k:IntKind}{w w':World}{A:Option Addr}{n:Nat}{l:List Int}(h:RdK k w A n l)(hb:Below w.heap.size w w'):RdK k w' A n l :=
 ⟨h.1,fun i x hx=>by obtain ⟨b,o,e,hc⟩:=h.2 i x hx;exact ⟨b,o,e,Zc hb (Nat.le_refl _) hc⟩⟩
def RdB (w:World)(A:Option Addr)(n:Nat)(l:List Bool):Prop :=
 l.length=n∧∀ i x,l[i]?=some x→∃ b o,A=some ⟨b,o,none⟩∧w.cell? ⟨b,o+i,none⟩=some (.bool x)
def RdP (w:World)(A:Option Addr)(n:Nat) (l:List (Int×Int)):Prop :=
 l.length=n∧∀ i x,l[i]?=some x→∃ b o,A=some ⟨b,o,none⟩∧w.cell? ⟨b,o+i*2,none⟩=some (.int .i64 x.1)∧w.cell? ⟨b,o+i*2+1,none⟩=some (.int .i64 x.2)
theorem RdP.at_ {w:World}{A:Option Addr}{n i:Nat} {l:List (Int×Int)} (h:RdP w A n l) (hi:i<n) :
 ∃ b o x y,A=some ⟨b,o,none⟩∧l[i]?=some (x,y)∧w.cell? ⟨b,o+i*2,none⟩=some (.int .i64 x)∧w.cell? ⟨b,o+i*2+1,none⟩=some (.int .i64 y):=by
 have hl:i<l.length:=by rw [h.1];exact hi
 obtain ⟨b,o,e,hc⟩:=h.2 i _ (List.getElem?_eq_getElem hl);exact ⟨b,o,_,_,e,List.getElem?_eq_getElem hl,hc.1,hc.2⟩
def Blk (w:World)(g:Nat)(t:TypeId)(cs:Array Value):Prop:=w.heap[g]?=some (.cells cs t (0,0))
section
variable {w w':World} {g:Nat} {t:TypeId} {cs:Array Value}
theorem Blk.lt (h:Blk w g t cs):g<w.heap.size:=by
 rcases Nat.lt_or_ge g w.heap.size with hlt|hge
 · exact hlt
 · unfold Blk at h;rw [Array.getElem?_eq_none hge] at h;cases h
theorem Blk.cell (h:Blk w g t cs)(i:Nat):w.cell? ⟨g,i,none⟩=cs[i]?:=cell_of_row w g i cs t (0,0) h
theorem Blk.frozen (h:Blk w g t cs)(i:Nat):w.frozen? ⟨g,i,none⟩=false:=by
 unfold Blk at h;simp [World.frozen?,h]
theorem Blk.new (w:World)(t:TypeId)(cs:Array Value):Blk (w.alloc (.cells cs t)) w.heap.size t cs:=heap_alloc_new w _
theorem Blk.new' (w:World)(t:TypeId)(cs:Array Value){g:Nat}(h:g=w.heap.size):Blk (w.alloc (.cells cs t)) g t cs:=by subst h;exact Blk.new w t cs
theorem Blk.drewN (h:Blk w g t cs)(n:Nat):Blk (w.drewN n) g t cs:=h
theorem Blk.drew (h:Blk w g t cs):Blk w.drew g t cs:=h
theorem Blk.alloc (h:Blk w g t cs)(o:Obj):Blk (w.alloc o) g t cs:=(Below.heap_alloc w o g h.lt).trans h
theorem Blk.set_ (h:Blk w g t cs)(i:Nat)(u:Value):Blk (w.setCell ⟨g,i,none⟩ u) g t (cs.setIfInBounds i u):=by
 unfold Blk at h ⊢;simp [World.setCell,Array.getElem?_modify,h]
theorem Blk.far (h:Blk w g t cs){p:Addr}(hp:g≠p.block)(u:Value):Blk (w.setCell p u) g t cs:=(Below.heap_setCell w p u g hp).trans h
theorem Blk.below {B:Nat}(h:Blk w g t cs)(hb:Below B w w')(hg:g<B):Blk w' g t cs:=(hb.block g hg).trans h
end
def Qbv (z:Value)(n:Nat):Array Value:=(List.replicate n z).toArray
def Qcs (l:List Int):Array Value:=(l.map (Value.int .i64)).toArray
def Qgk (l:List Bool):Array Value:=(l.map Value.bool).toArray
theorem Qct (n:Nat):Qbv (.int .i64 0) n=Qcs (List.replicate n 0):=by simp [Qbv,Qcs]
theorem Qnj (n:Nat):Qbv (.bool false) n=Qgk (List.replicate n false):=by simp [Qbv,Qgk]
theorem Quc (l:List Int)(i:Nat):(Qcs l)[i]?=(l[i]?).map (Value.int .i64):=by simp [Qcs]
theorem Qyr (l:List Bool)(i:Nat):(Qgk l)[i]?=(l[i]?).map Value.bool:=by simp [Qgk]
theorem ints_set (l:List Int)(i:Nat)(x:Int):(Qcs l).setIfInBounds i (.int .i64 x)=Qcs (l.set i x):=by simp [Qcs,List.map_set]
theorem Qyp (l:List Bool)(i:Nat)(x:Bool):(Qgk l).setIfInBounds i (.bool x)=Qgk (l.set i x):=by simp [Qgk,List.map_set]
theorem Blk.rdI {w:World}{g:Nat}{t:TypeId}{l:List Int} (h:Blk w g t (Qcs l)) {n:Nat} (hn:l.length=n):RdI w (some ⟨g,0,none⟩) n l :=
 ⟨hn,fun i x hx=>⟨g,0,rfl,by rw [Nat.zero_add,h.cell,Quc,hx];rfl⟩⟩
theorem Blk.cellI {w:World}{g i:Nat}{t:TypeId}{l:List Int}{x:Int} (h:Blk w g t (Qcs l)) (hx:l[i]?=some x):w.cell? ⟨g,i,none⟩=some (.int .i64 x):=by
 rw [h.cell,Quc,hx];rfl
theorem Blk.cellB {w:World}{g i:Nat}{t:TypeId}{l:List Bool}{x:Bool} (h:Blk w g t (Qgk l)) (hx:l[i]?=some x):w.cell? ⟨g,i,none⟩=some (.bool x):=by
 rw [h.cell,Qyr,hx];rfl
theorem Qfh {P:Program}(t e:TypeId)(z:Value)(by_:Nat) (hinfo:(P.info? e).map (fun i=>(i.zero,i.size,i.bytes))=some (some z,1,by_)) (ht:P.underlying t=some (.slice e)) (hz1:z.cells=#[z])
 (n:Nat) (hb:by_*n≤281474976710656) (h63:n≤9223372036854775807) (kl kc:IntKind) (w:World) :
 (Instr.makeSlice t (.int kl (n:Int)) (.int kc (n:Int))).run P w=.ok (.slice (some ⟨w.heap.size,0,none⟩) n n) (w.alloc (.cells (Qbv z n) e)):=by
 obtain ⟨i,hi,hz,hs,hbb⟩:=info_parts hinfo
 have hb':(i.bytes:Int)*(n:Int)≤281474976710656:=by
  rw [hbb];have h:((by_*n:Nat):Int)≤281474976710656:=by omega
  rwa [Int.natCast_mul] at h
 have hr:=run_make (P:=P) w t e i z ht hi hz kl kc n n (by omega) (by omega) hb' (by omega);simp only [Int.toNat_natCast] at hr
 have hm:madeCells z.cells (n*i.size)=Qbv z n:=by
  rw [hs,Nat.mul_one,hz1]
  apply Array.ext'
  rw [toList_madeCells_one];simp [Qbv]
 rw [hm] at hr;exact hr
def cutA (s:Nat)(A:Option Addr)(m c:Nat):Option Addr:=if c=m then A else A.map (·.add (m*s))
theorem Rap {P:Program}(t e:TypeId)(s:Nat) (ht:P.underlying t=some (.slice e)) (he:P.elem t=e) (hs:(P.info? e).map (·.size)=some s) (A:Option Addr) (n c m r:Nat) (hm:m≤n) (hr:n-m=r) (k:IntKind) (x:Int) (hx:x=m) (w:World) :
 (Instr.slice t (.slice A n c) (some (.int k x)) none none).run P w=.ok (.slice (cutA s A m c) r (c-m)) w:=by
 subst hx;subst hr;rw [run_slice_l (P:=P) w t A n c (by rw [he];exact ht) k m (by omega) (by omega),he]
 cases hi:P.info? e with
 | none=>rw [hi] at hs;cases hs
 | some i =>
  rw [hi] at hs;simp at hs;simp [sizeOf,typeInfo,hi,Result.andThen,hs,sliced,cutA]
theorem RdK.take {k:IntKind}{w:World}{A:Option Addr}{n m:Nat}{l:List Int}(h:RdK k w A n l)(hm:m≤n):RdK k w A m (l.take m) :=
 ⟨by rw [List.length_take,h.1];omega,fun i x hx=>h.2 i x (by rw [List.getElem?_take] at hx;split at hx;exact hx;cases hx)⟩
theorem Blk.setI {w:World}{g i:Nat}{t:TypeId}{l l':List Int}{x:Int} (h:Blk w g t (Qcs l)) (e:l.set i x=l'):Blk (w.setCell ⟨g,i,none⟩ (.int .i64 x)) g t (Qcs l'):=by
 have:=h.set_ i (.int .i64 x)
 rwa [ints_set,e] at this
theorem Blk.setB {w:World}{g i:Nat}{t:TypeId}{l l':List Bool}{x:Bool} (h:Blk w g t (Qgk l)) (e:l.set i x=l'):Blk (w.setCell ⟨g,i,none⟩ (.bool x)) g t (Qgk l'):=by
 have:=h.set_ i (.bool x)
 rwa [Qyp,e] at this
theorem Qai {P:Program}{c:Code}{Q:Exit→Act→World→Prop}{a:Act}{w:World}(h:∀ W,W=w→c.wp P Q a W):c.wp P Q a w:=h w rfl
theorem Zi {w p:World}{b o:Nat}{u:Value}(h:Below w.heap.size w p)(hp:w.heap.size≤b):Below w.heap.size w (p.setCell ⟨b,o,none⟩ u):=Below.setCell h hp u
theorem Blk.far_ {w:World}{g:Nat}{t:TypeId}{cs:Array Value}{b o:Nat}(h:Blk w g t cs)(hp:g≠b)(u:Value):Blk (w.setCell ⟨b,o,none⟩ u) g t cs:=h.far hp u
end Go.Proofs.YtdheeddnkdhfeaaGreatDoor
namespace Go.Proofs.YtdheeddnkdhfeaaGreatDoor
open Go.RowKit Go.Extern.Stop Go.Stop Go.Extern Go.Proofs.Tryz
abbrev Qnc (c:Int):Value:=.iface 131 (.int .i64 c)
abbrev Qwz (b o:Nat):Value:=.iface 146 (.pointer (some ⟨b,o,none⟩))
def Qcd (w:World):Value→List (ByteArray×Int)→Int→Prop
 | v,[],c=>v=Qnc c
 | v,p::ps,c=>∃ b o u,v=Qwz b o∧w.cell? ⟨b,o,none⟩=some (.string p.1)∧w.cell? ⟨b,o+1,none⟩=some (.int .i64 p.2)∧w.cell? ⟨b,o+2,none⟩=some u∧Qcd w u ps c
theorem Qcd.below {w w':World}(hb:Below w.heap.size w w'):∀ {ps:List (ByteArray×Int)} {v:Value} {c:Int},Qcd w v ps c→Qcd w' v ps c
 | [],_,_,h=>h
 | _::_,_,_,h=>by
  obtain ⟨b,o,u,h1,h2,h3,h4,h5⟩:=h;exact ⟨b,o,u,h1,Zc hb (Nat.le_refl _) h2,Zc hb (Nat.le_refl _) h3,Zc hb (Nat.le_refl _) h4,Qcd.below hb h5⟩
/-! closed facts -/
theorem Qyk (v:Value)(w:World):(ReflectliteType.typeOf #[.iface 131 v]).run prog w=.ok (.iface 281 (.agg #[.pointer (some ⟨1,131,none⟩)])) w:=by kernel_rfl
def erComp : Array Value → Sem Value := ReflectliteType.method fun t => do Rtype.noPackHeld "Comparable" t; pure (.bool (← typeInfo t).comparable)
theorem Qnv (w:World):(erComp #[.agg #[.pointer (some ⟨1,131,none⟩)]]).run prog w=.ok (.bool true) w:=by kernel_rfl
theorem Qlu (v : Value) (w : World) : (Go.method 463 281 v "Comparable").run Tryz.prog w = .ok (242, v) w := by kernel_rfl
theorem er_noIs (v:Value)(xT:TypeId)(w:World):(Instr.typeAssert (.iface 131 v) xT 283 true).run prog w=.ok (.tuple #[.nilIface,.bool false]) w:=run_typeAssert_lacksB underlying283 (by kernel_rfl) (by kernel_rfl) v xT w
theorem er_noIsF (v:Value)(xT:TypeId)(w:World):(Instr.typeAssert (.iface 146 v) xT 283 true).run prog w=.ok (.tuple #[.nilIface,.bool false]) w:=run_typeAssert_lacksB underlying283 (by kernel_rfl) (by kernel_rfl) v xT w
theorem Qrg (v:Value)(xT:TypeId)(w:World):(Instr.typeAssert (.iface 131 v) xT 286 true).run prog w=.ok (.tuple #[.nilIface,.bool false]) w:=run_typeAssert_lacksB underlying286 (by kernel_rfl) (by kernel_rfl) v xT w
theorem Qqd (v:Value)(xT:TypeId)(w:World):(Instr.typeAssert (.iface 131 v) xT 288 true).run prog w=.ok (.tuple #[.nilIface,.bool false]) w:=run_typeAssert_lacksB underlying288 (by kernel_rfl) (by kernel_rfl) v xT w
theorem er_noAs (v:Value)(xT:TypeId)(w:World):(Instr.typeAssert (.iface 131 v) xT 293 true).run prog w=.ok (.tuple #[.nilIface,.bool false]) w:=run_typeAssert_lacksB underlying293 (by kernel_rfl) (by kernel_rfl) v xT w
theorem Qnn (v:Value)(xT:TypeId)(w:World):(Instr.typeAssert (.iface 146 v) xT 286 true).run prog w=.ok (.tuple #[.iface 146 v,.bool true]) w:=run_typeAssert_hasB underlying286 (by kernel_rfl) v xT w
theorem Qwv (v : Value) (w : World) : (Go.method 463 146 v "Unwrap").run Tryz.prog w = .ok (236, v) w := by kernel_rfl
theorem er_comp:(Tryz.prog.info? 131).map (·.comparable)=some true:=by kernel_rfl
theorem er_eq (a b:Int)(w:World):(binOp .eql 44 (Qnc a) (Qnc b)).run prog w=.ok (.bool (a == b)) w:=Lib.run_eql_iface_int w a b underlying44 er_comp underlying131
theorem er_ne (p:Value)(b:Int)(w:World):(binOp .eql 44 (.iface 146 p) (Qnc b)).run prog w=.ok (.bool false) w:=run_eql_iface_types (P:=prog) 146 131 p (.int .i64 b) underlying44 (by decide) w
theorem Qkw {w:World}{v:Value} {ps:List (ByteArray×Int)} {c:Int} (h:Qcd w v ps c):v=Qnc c∧ps=[]∨∃ b o u p t,v=Qwz b o∧ps=p::t∧w.cell? ⟨b,o,none⟩=some (.string p.1)∧w.cell? ⟨b,o+1,none⟩=some (.int .i64 p.2)∧w.cell? ⟨b,o+2,none⟩=some u∧Qcd w u t c:=by
 cases ps with
 | nil=>exact .inl ⟨h,rfl⟩
 | cons p t=>obtain ⟨b,o,u,h1,h2,h3,h4,h5⟩:=h;exact .inr ⟨b,o,u,p,t,h1,rfl,h2,h3,h4,h5⟩
theorem Qbj {w:World}{v:Value} {ps:List (ByteArray×Int)} {c:Int} (h:Qcd w v ps c):∃ t x,v=.iface t x:=by
 rcases Qkw h with ⟨h,_⟩|⟨b,o,u,p,t,h,_⟩ <;> exact ⟨_,_,h⟩
theorem Qpr {w:World}:∀ {ps qs:List (ByteArray×Int)} {v:Value} {c d:Int},Qcd w v ps c→Qcd w v qs d→ps.length=qs.length
 | [],[],_,_,_,_,_=>rfl
 | [],_::_,_,_,_,h,g=>by obtain ⟨b,o,u,h1,_⟩:=g;unfold Qcd at h;rw [h] at h1;cases h1
 | _::_,[],_,_,_,g,h=>by obtain ⟨b,o,u,h1,_⟩:=g;unfold Qcd at h;rw [h] at h1;cases h1
 | _::_,_::_,_,_,_,h,g=>by
  obtain ⟨b,o,u,h1,_,_,h2,h3⟩:=h;obtain ⟨b',o',u',g1,_,_,g2,g3⟩:=g;rw [h1] at g1
  cases g1
  rw [h2] at g2
  cases g2
  simp [Qpr h3 g3]
noncomputable def Qju (w:World) (v:Value):Nat:=by
 classical exact if h:∃ n c,∃ ps,Qcd w v ps c∧ps.length=n then h.choose else 0
theorem Qsi {w:World} {ps:List (ByteArray×Int)} {v:Value} {c:Int} (h:Qcd w v ps c):Qju w v=ps.length:=by
 have hex:∃ n c,∃ ps,Qcd w v ps c∧ps.length=n:=⟨_,c,ps,h,rfl⟩;unfold Qju;rw [dif_pos hex];obtain ⟨d,qs,g,hl⟩:=hex.choose_spec;rw [←hl];exact Qpr g h
theorem Qwh (b o:Nat)(u:Value)(w:World)(h:w.cell? ⟨b,o+2,none⟩=some u) :
 Calls prog 236 #[.pointer (some ⟨b,o,none⟩)] w fun e w'=>e=.returned u∧w'=w:=by
 go_enter func236,ntmps236
 go_wp2
 exact Kbd
set_option maxHeartbeats 1000000 in
theorem is_loop (v:Value) (ps:List (ByteArray×Int)) (c:Int) (w:World) (h:Qcd w v ps c) :
 Calls prog 122 #[v,Qnc c,.bool true] w fun e w'=>e=.returned (.bool true)∧w'=w:=by
 have nE:=er_noIs;have nF:=er_noIsF;have uF:=Qnn;have mU:=Qwv;have heq:=er_eq;have hne:=er_ne;have hCL:∀ (ps:List (ByteArray×Int)) (v:Value) (c:Int),Qcd w v ps c→Qju w v=ps.length:=fun _ _ _ h=>Qsi h
 have HCL:=Lib.hid hCL;clear hCL;have HU:∀ (b o:Nat) (u:Value),w.cell? ⟨b,o+2,none⟩=some u→Calls prog 236 #[.pointer (some ⟨b,o,none⟩)] w fun e w'=>e=.returned u∧w'=w:=fun b o u h=>Qwh b o u w h
 have HU':=Lib.hid HU;clear HU
 go_enter func122,ntmps122
 go_wp2
 go_loop [0] (fun i=>∃ qs,Qcd w i qs c) (fun i=>Qju w i)
 case atStart=>exact ⟨ps,h⟩
 case round =>
  obtain ⟨qs,hq⟩:=hrel
  rcases Qkw hq with ⟨rfl,rfl⟩|⟨b,o,u,p,t,rfl,rfl,h1,h2,h3,h4⟩
  · clear hq h
    go_wp2
    exact Kbd
  · obtain ⟨tu,xu,rfl⟩:=Qbj h4
    have e1:=HCL.out _ _ _ hq;have e2:=HCL.out _ _ _ h4;have E1:=Lib.hid e1;clear e1;have E2:=Lib.hid e2;clear e2;have H4:=Lib.hid h4;clear h4;have h3':=h3;clear hq h
    go_wp2_with (go_at_call 236;refine (HU'.out b o _ h3).mono ?_;rintro e w' ⟨rfl,rfl⟩)
    go_round
    case rel=>exact ⟨t,H4.out⟩
    case measure=>rw [E1.out,E2.out];simp
set_option maxHeartbeats 1000000 in
theorem errorsIs (v:Value) (ps:List (ByteArray×Int)) (c:Int) (w:World) (h:Qcd w v ps c) :
 Calls prog 70 #[v,Qnc c] w fun e w'=>e=.returned (.bool true)∧w'=w:=by
 have h10:=@run_callFunc_extern prog 121 _ ReflectliteType.typeOf func121 (by kernel_rfl) (by kernel_rfl) (by kernel_rfl) (by kernel_rfl);have h32:=@run_callFunc_extern prog 242 _ erComp func242 (by kernel_rfl) (by kernel_rfl) (by kernel_rfl) (by kernel_rfl);have tT:=Qyk;have cT:=Qnv;have mR:=Qlu;have HL:=Lib.hid (is_loop v ps c w h);obtain ⟨tv,xv,rfl⟩:=Qbj h;clear h
 go_enter func70,ntmps70
 go_wp2_with (go_at_call 122;refine (HL.out).mono ?_;rintro e w' ⟨rfl,rfl⟩)
 exact Kbd
end Go.Proofs.YtdheeddnkdhfeaaGreatDoor
namespace Go.Proofs.YtdheeddnkdhfeaaGreatDoor
open Go.RowKit Go.Proofs.Tryz
theorem add_mk (b o j:Nat):(⟨b,o,none⟩:Addr).add j=⟨b,o+j,none⟩:=by
 cases j <;> simp [Addr.add]
def Rds (w:World)(s:Nat)(A:Option Addr)(m:Nat)(xs:List Value):Prop :=
 xs.length=m*s∧∀ j u,xs[j]?=some u→∃ b o,A=some ⟨b,o,none⟩∧w.cell? ⟨b,o+j,none⟩=some u
theorem Rds.below {w w':World}{s m:Nat}{A:Option Addr}{xs:List Value}(h:Rds w s A m xs)(hb:Below w.heap.size w w'):Rds w' s A m xs :=
 ⟨h.1,fun i x hx=>by obtain ⟨b,o,e,hc⟩:=h.2 i x hx;exact ⟨b,o,e,Zc hb (Nat.le_refl _) hc⟩⟩
theorem Blk.rds {w:World}{g s m:Nat}{t:TypeId}{cs:Array Value}(h:Blk w g t cs)(hl:cs.size=m*s):Rds w s (some ⟨g,0,none⟩) m cs.toList :=
 ⟨by simpa using hl,fun j u hu=>⟨g,0,rfl,by rw [Nat.zero_add,h.cell];simpa using hu⟩⟩
theorem RdK.rds {k:IntKind}{w:World}{n:Nat}{A:Option Addr}{l:List Int}(h:RdK k w A n l):Rds w 1 A n (l.map (Value.int k)) :=
 ⟨by simp [h.1],fun j u hu=>by
  rw [List.getElem?_map] at hu
  cases hx:l[j]? with
  | none=>rw [hx] at hu;cases hu
  | some x=>rw [hx] at hu;cases hu;exact h.2 j x hx⟩
def Qfi:List (Int×Int)→List Value
 | []=>[]
 | p::t=>.int .i64 p.1::.int .i64 p.2::Qfi t
theorem Qmr:∀ l:List (Int×Int),(Qfi l).length=l.length*2
 | []=>rfl
 | _::t=>by simp [Qfi,Qmr t];omega
theorem Qmw:∀ l m:List (Int×Int),Qfi (l ++m)=Qfi l ++Qfi m
 | [],_=>rfl
 | p::t,m=>by simp [Qfi,Qmw t m]
theorem Qme:∀ {l:List (Int×Int)} {i:Nat} {p:Int×Int},l[i]?=some p→(Qfi l)[i*2]?=some (.int .i64 p.1)∧(Qfi l)[i*2+1]?=some (.int .i64 p.2)
 | [],i,p,h=>by simp at h
 | q::t,0,p,h=>by simp at h;subst h;simp [Qfi]
 | q::t,i+1,p,h=>by
  have:=Qme (l:=t) (i:=i) (p:=p) (by simpa using h);rw [show (i+1)*2=i*2+1+1 by omega]
  simpa [Qfi] using this
theorem Rds.rdP {w:World}{n:Nat}{A:Option Addr} {l:List (Int×Int)} (h:Rds w 2 A n (Qfi l)):RdP w A n l :=
 ⟨by have:=h.1;rw [Qmr] at this;omega,fun i p hp=>by
  obtain ⟨h1,h2⟩:=Qme hp;obtain ⟨b,o,e,c1⟩:=h.2 _ _ h1;obtain ⟨b',o',e',c2⟩:=h.2 _ _ h2;rw [e] at e';cases e'
  exact ⟨b,o,e,c1,by rw [Nat.add_assoc];exact c2⟩⟩
theorem Rds.rdK {k:IntKind}{w:World}{n:Nat}{A:Option Addr}{l:List Int} (h:Rds w 1 A n (l.map (Value.int k))):RdK k w A n l :=
 ⟨by have:=h.1;simpa using this,fun i x hx=>h.2 i _ (by rw [List.getElem?_map,hx];rfl)⟩
theorem ints_one (k:IntKind)(l:List Int):∀ u∈l.map (Value.int k),u.oneCell'=true:=by
 intro u hu;obtain ⟨x,_,rfl⟩:=List.mem_map.1 hu;rfl
def Qaf (l:List Int):List Value:=l.map (Value.int .i64)
theorem Qbr (l m:List Int):Qaf (l ++m)=Qaf l ++Qaf m:=by simp [Qaf]
theorem Rds.rdI {w:World}{n:Nat}{A:Option Addr}{l:List Int} (h:Rds w 1 A n (Qaf l)):RdI w A n l:=Rds.rdK h
theorem RdK.rdsI {w:World}{n:Nat}{A:Option Addr}{l:List Int}(h:RdI w A n l):Rds w 1 A n (Qaf l):=RdK.rds h
theorem Qao (l:List Int):∀ u∈Qaf l,u.oneCell'=true:=ints_one .i64 l
def Qac (A:Option Addr):Option Nat:=A.map (·.block)
def Own (w:World)(B:Nat)(e:TypeId)(s:Nat)(A:Option Addr)(n c:Nat)(xs:List Value):Prop:=w.ownsRow B e s (.slice A n c) n xs
section
variable {w w':World} {B s n c:Nat} {e:TypeId} {A:Option Addr} {xs:List Value}
theorem Own.nil (w:World)(B s:Nat)(e:TypeId):Own w B e s none 0 0 []:=World.ownsRow_nil w B e s
theorem Own.lit (w:World)(cs:Array Value)(n:Nat)(hb:B≤w.heap.size)(hm:n≤9223372036854775807)(hs:cs.size=n*s):Own (w.alloc (.cells cs e)) B e s (some ⟨w.heap.size,0,none⟩) n n cs.toList :=
 World.ownsRow_lit w cs n hb (by unfold maxLen;omega) hs
theorem Own.drewN (h:Own w B e s A n c xs)(k:Nat):Own (w.drewN k) B e s A n c xs:=h
theorem Own.drew (h:Own w B e s A n c xs):Own w.drew B e s A n c xs:=h
theorem Own.alloc (h:Own w B e s A n c xs)(o:Obj):Own (w.alloc o) B e s A n c xs:=World.ownsRow.alloc h o
theorem Own.lt (h:Own w B e s A n c xs):∀ k,Qac A=some k→B≤k∧k<w.heap.size:=by
 intro k hk;have:=World.ownsRow.lt h k
 cases A with
 | none=>cases hk
 | some a=>exact this hk
theorem Own.below (h:Own w B e s A n c xs)(hb:Below w.heap.size w w'):Own w' B e s A n c xs:=by
 refine World.ownsRow.kept (row:=none) h ⟨hb.os,hb.tape,hb.output,hb.size,fun k hk _=>hb.block k hk⟩ ?_
 cases A with
 | none=>exact .inl rfl
 | some a=>exact .inr (by simp [Value.ownBlock])
theorem Own.far (h:Own w B e s A n c xs){row:Option Nat}(hg:w.grownBy w' row)(hne:Qac A=none∨Qac A≠row):Own w' B e s A n c xs:=by
 refine World.ownsRow.kept h hg ?_
 cases A with
 | none=>exact .inl rfl
 | some a=>rcases hne with h | h;cases h;exact .inr h
theorem Own.rds (h:Own w B e s A n c xs):Rds w s A n xs:=by
 refine ⟨h.1,fun j u hu=>?_⟩;have hc:=h
 rcases h.2 with ⟨h',h0⟩|⟨g,cap,cur,h',_,_⟩
 · have:=h.1
   rw [h0,Nat.zero_mul] at this;rw [List.eq_nil_of_length_eq_zero this] at hu
   cases hu
 · cases h'
   have:=World.ownsRow.cells hc (g:=g) rfl j u hu;rw [add_mk] at this;exact ⟨g,0,rfl,this⟩
theorem Own.shape {v:Value}(h:w.ownsRow B e s v n xs):∃ A c,v=.slice A n c:=by
 rcases h.2 with ⟨rfl,rfl⟩|⟨g,cap,cur,rfl,_⟩
 · exact ⟨_,_,rfl⟩
 · exact ⟨_,_,rfl⟩
theorem Own.cap (h:Own w B e s A n c xs):n≤c:=by
 rcases h.2 with ⟨h',h0⟩|⟨g,cap,cur,h1,_,_,h3,_⟩
 · cases h';omega
 · cases h1;exact h3
theorem Own.mono (h:Own w B e s A n c xs){B':Nat}(hB:B'≤B):Own w B' e s A n c xs:=by
 refine ⟨h.1,?_⟩
 rcases h.2 with h'|⟨g,cap,cur,h1,h2,h3⟩
 · exact .inl h'
 · exact .inr ⟨g,cap,cur,h1,by omega,h3⟩
end
section
variable {P:Program}
theorem run_app (w:World)(t ty e:TypeId)(z:Value)(s by_:Nat) (hinfo:(P.info? e).map (fun i=>(i.zero,i.size,i.bytes))=some (some z,s,by_)) (ht:P.underlying t=some (.slice e)) (hzs:z.cells.size=s) (hs0:0<s)
 {B n c m c2:Nat} {A X:Option Addr} {xs news:List Value} (hown:Own w B e s A n c xs) (hr:Rds w s X m news) (h1:∀ u∈news,u.oneCell'=true)
 (hn:(n+m)*by_≤140737488355328) (hnm:n+m≤9223372036854775807) (hB:B≤w.heap.size) :
 ∃ A' c' w',(Builtin.append_ #[t,t] ty #[.slice A n c,.slice X m c2]).run P w=.ok (.slice A' (n+m) c') w'∧Own w' B e s A' (n+m) c' (xs ++news)∧w.grownBy w' (Qac A)∧(Qac A'=Qac A∨Qac A'=some w.heap.size):=by
 obtain ⟨i,hi,hz,hs,hb⟩:=info_parts hinfo;have hob:∀ (Y:Option Addr) (k d:Nat),(Value.slice Y k d).ownBlock=Qac Y:=fun Y k d=>by cases Y <;> rfl
 cases hm:news with
 | nil =>
  have hm0:m=0:=by
   have:=hr.1;rw [hm] at this
   rcases Nat.eq_zero_or_pos m with h0|h0
   · exact h0
   · have:0<m*s:=Nat.mul_pos h0 hs0
     simp at *;omega
  subst hm0
  cases X with
  | none =>
   refine ⟨A,c,w,?_,by simpa using hown,World.grownBy.refl w _,.inl rfl⟩
   rcases hown.2 with ⟨h',h0⟩|⟨g,cap,cur,h',_,_,hnc,_⟩
   · cases h'
     simp [Builtin.append_,run_underlying ht,sizeOf,typeInfo,hi,Builtin.lenOf,Builtin.firstCells]
   · cases h'
     simp [Builtin.append_,run_underlying ht,sizeOf,typeInfo,hi,Builtin.lenOf,Builtin.firstCells,hnc,storeCells]
  | some ad =>
   obtain ⟨v',w',hrun,h2,h3,_,h5⟩:=run_append_own_at (P:=P) w B t ty e i z s by_ ht hi hz hs hb hzs hs0 _ n xs hown ad 0 c2 [] (by simp) (fun j u hu=>by cases hu) (fun u hu=>by cases hu) (by unfold maxLen;omega) hn hB
   obtain ⟨A',c',rfl⟩:=Own.shape h2;rw [hob,hob] at h5;rw [hob] at h3;exact ⟨A',c',w',hrun,h2,h3,h5⟩
 | cons u0 tl =>
  obtain ⟨b,o,rfl,_⟩:=hr.2 0 u0 (by rw [hm];rfl);rw [←hm]
  obtain ⟨v',w',hrun,h2,h3,_,h5⟩:=run_append_own_at (P:=P) w B t ty e i z s by_ ht hi hz hs hb hzs hs0 _ n xs hown ⟨b,o,none⟩ m c2 news hr.1
   (fun j u hu=>by obtain ⟨b',o',e',hc⟩:=hr.2 j u hu;cases e';rw [add_mk];exact hc) h1 (by unfold maxLen;omega) hn hB
  obtain ⟨A',c',rfl⟩:=Own.shape h2;rw [hob,hob] at h5;rw [hob] at h3;exact ⟨A',c',w',hrun,h2,h3,h5⟩
theorem wp_app {w:World}{o:Oper}{a:Act}{K:Act→World→Prop}{Q:Exit→Act→World→Prop}(s x:Operand)(t:TypeId)
 (ho:o.op=.call { callee:=.builtin .append,args:=#[s,x],argTypes:=#[t,t] })
 (e:TypeId) (z:Value) (sz by_:Nat) (hinfo:(P.info? e).map (fun i=>(i.zero,i.size,i.bytes))=some (some z,sz,by_)) (ht:P.underlying t=some (.slice e)) (hzs:z.cells.size=sz) (hs0:0<sz)
 {B n c m c2:Nat} {A X:Option Addr} {xs news:List Value} (hs:a.eval s=.slice A n c) (hx:a.eval x=.slice X m c2)
 (hown:Own w B e sz A n c xs) (hr:Rds w sz X m news) (h1:∀ u∈news,u.oneCell'=true) (hn:(n+m)*by_≤140737488355328) (hnm:n+m≤9223372036854775807) (hB:B≤w.heap.size)
 (h:∀ A' c' w',Own w' B e sz A' (n+m) c' (xs ++news)→w.grownBy w' (Qac A)→(Qac A'=Qac A∨Qac A'=some w.heap.size)→K (a.put o.dst (.slice A' (n+m) c')) w'):o.wp P a w K Q:=by
 obtain ⟨A',c',w',hrun,h2,h3,h4⟩:=run_app (P:=P) w t o.type e z sz by_ hinfo ht hzs hs0 (c2:=c2) hown hr h1 hn hnm hB;unfold Oper.wp execOp;simp only [ho,resolve,invoke,builtin,Sem.run_bind,Sem.run_pure,Result.andThen_ok,List.map_toArray,List.map_cons,List.map_nil,hs,hx,hrun];exact h A' c' w' h2 h3 h4
theorem Qan {w:World}{ops:Array Oper}{rest:List Oper}{o:Oper}{a:Act}{Q:Exit→Act→World→Prop}(hgd:o.guard=none)(s x:Operand)(t:TypeId)
 (ho:o.op=.call { callee:=.builtin .append,args:=#[s,x],argTypes:=#[t,t] })
 (e:TypeId) (z:Value) (sz by_:Nat) (hinfo:(P.info? e).map (fun i=>(i.zero,i.size,i.bytes))=some (some z,sz,by_)) (ht:P.underlying t=some (.slice e)) (hzs:z.cells.size=sz) (hs0:0<sz)
 {B n c m c2:Nat} {A X:Option Addr} {xs news:List Value} (hs:a.eval s=.slice A n c) (hx:a.eval x=.slice X m c2)
 (hown:Own w B e sz A n c xs) (hr:Rds w sz X m news) (h1:∀ u∈news,u.oneCell'=true) (hn:(n+m)*by_≤140737488355328) (hnm:n+m≤9223372036854775807) (hB:B≤w.heap.size)
 (h:∀ A' c' w',Own w' B e sz A' (n+m) c' (xs ++news)→w.grownBy w' (Qac A)→(Qac A'=Qac A∨Qac A'=some w.heap.size)→wpList P ops Q rest (a.put o.dst (.slice A' (n+m) c')) w'):wpList P ops Q (o::rest) a w :=
 wpList_plain hgd fun _ hK=>wp_app s x t ho e z sz by_ hinfo ht hzs hs0 hs hx hown hr h1 hn hnm hB fun A' c' w' h2 h3 h4=>hK _ _ (h A' c' w' h2 h3 h4)
theorem step_app {w:World}{ops:Array Oper}{o:Oper}{a:Act}{K:Act→World→Prop}{Q:Exit→Act→World→Prop}{E:Prop}(hgd:o.guard=none)(s x:Operand)(t:TypeId)
 (ho:o.op=.call { callee:=.builtin .append,args:=#[s,x],argTypes:=#[t,t] })
 (e:TypeId) (z:Value) (sz by_:Nat) (hinfo:(P.info? e).map (fun i=>(i.zero,i.size,i.bytes))=some (some z,sz,by_)) (ht:P.underlying t=some (.slice e)) (hzs:z.cells.size=sz) (hs0:0<sz)
 {B n c m c2:Nat} {A X:Option Addr} {xs news:List Value} (hs:a.eval s=.slice A n c) (hx:a.eval x=.slice X m c2)
 (hown:Own w B e sz A n c xs) (hr:Rds w sz X m news) (h1:∀ u∈news,u.oneCell'=true) (hn:(n+m)*by_≤140737488355328) (hnm:n+m≤9223372036854775807) (hB:B≤w.heap.size)
 (h:∀ A' c' w',Own w' B e sz A' (n+m) c' (xs ++news)→w.grownBy w' (Qac A)→(Qac A'=Qac A∨Qac A'=some w.heap.size)→K (a.put o.dst (.slice A' (n+m) c')) w') :
 if Region.wanted o (yielded ops a.tmps)=true then Oper.wp P o a w K Q else E:=by
 have hw:Region.wanted o (yielded ops a.tmps)=true:=by simp [Region.wanted,hgd]
 rw [if_pos hw];exact wp_app s x t ho e z sz by_ hinfo ht hzs hs0 hs hx hown hr h1 hn hnm hB h
end
def Dj (A A':Option Addr):Prop:=Qac A=none∨Qac A'=none∨Qac A≠Qac A'
theorem Dj.symm {A A':Option Addr}(h:Dj A A'):Dj A' A:=by
 rcases h with h|h|h
 · exact .inr (.inl h)
 · exact .inl h
 · exact .inr (.inr (Ne.symm h))
theorem Dj.far {A A':Option Addr}(h:Dj A A'):Qac A'=none∨Qac A'≠Qac A:=by
 rcases h with h|h|h
 · cases hA:Qac A' with
   | none=>exact .inl rfl
   | some g=>right;rw [h];exact fun e=>by cases e
 · exact .inl h
 · exact .inr (Ne.symm h)
theorem Dj.next {w:World}{B s n c:Nat}{e:TypeId}{A A' A2:Option Addr}{xs:List Value}(h:Dj A A')(ho:Own w B e s A' n c xs)(hat:Qac A2=Qac A∨Qac A2=some w.heap.size):Dj A2 A':=by
 rcases hat with hat|hat
 · unfold Dj;rw [hat];exact h
 · cases hA:Qac A' with
   | none=>exact .inr (.inl hA)
   | some g =>
    have:=(Own.lt ho g hA).2;exact .inr (.inr (by rw [hat,hA];intro e;injection e;omega))
theorem Zo {B:Nat}{a w w':World}{e:TypeId}{s n c:Nat}{A:Option Addr}{xs:List Value}(h:Below B a w) (hg:w.grownBy w' (Qac A)) (hown:Own w B e s A n c xs) (hB:B≤w.heap.size):Below B a w' :=
 h.grown hg hB fun k hk=>(hown.lt k hk).1
theorem Qcf {k:IntKind}{a b:Int}(h:a=b):Ending.returned (.int k a)=.returned (.int k b):=by rw [h]
theorem Qbh {a b:Bool}(h:a=b):Ending.returned (.bool a)=.returned (.bool b):=by rw [h]
theorem Below.frozenOf {B:Nat}{w w':World}(h:Below B w w'){a:Addr}(hB:a.block<B):w'.frozen? a=w.frozen? a:=by
 unfold World.frozen?;rw [h.block _ hB]
theorem Qab {P:Program}{f:Nat}{args:Array Value}{w:World}{Q:Ending→World→Prop}(h:∀ W,W=w→Calls P f args W Q):Calls P f args w Q:=h w rfl
theorem Qkc {P:Program}{ops:Array Oper}{Q:Exit→Act→World→Prop}{md:Region.Mode}{S S':World→Prop}(h:∀ w,S' w→S w) :
 ∀ (fuel:Nat) (listed:Array Bool) (a:Act) (w:World),wpAnyH P md ops Q S' fuel listed a w→wpAnyH P md ops Q S fuel listed a w
 | 0,_,_,_,g=>g
 | fuel+1,_,_,_,g=>⟨g.1,fun i hi=>wpOp_mono (fun a' w' h'=>⟨h _ h'.1,Qkc h fuel _ a' w' h'.2⟩) (g.2 i hi)⟩
theorem take_ {P:Program}{ops:Array Oper}{Q:Exit→Act→World→Prop}{md:Region.Mode}{S:World→Prop}{i:Nat}{oi:Oper}{d:Option Tmp}{v:Value}{fuel:Nat}{listed:Array Bool}{a:Act}{w:World} (hi:ops[i]?=some oi) (hd:oi.dst=d)
 (hs:Region.noSelect ops=true) (hf:Region.free md ops listed i=true) (hr:(Region.ready md ops listed).contains i=true)
 (hQ:∀ c a w,Q (.panic c) (a.put oi.dst v) w→Q (.panic c) a w) (hw:Region.wanted oi (yielded ops a.tmps)=true) (hy:∀ w,S w→(execOp a.eval oi).run P w=.ok (.value v) w) (hS:S w)
 (h:wpAnyH P md ops Q S fuel (listed.setIfInBounds i true) (a.put d v) w):wpAnyH P md ops Q S (fuel+1) listed a w:=by
 subst hd;exact wpAnyH_take hi hs hf hr hQ (Or.inl ⟨hw,hy⟩) hS h
theorem takeU_ {P:Program}{ops:Array Oper}{Q:Exit→Act→World→Prop}{md:Region.Mode}{S:World→Prop}{i:Nat}{oi:Oper}{d:Option Tmp}{fuel:Nat}{listed:Array Bool}{a:Act}{w:World} (hi:ops[i]?=some oi) (hd:oi.dst=d)
 (hs:Region.noSelect ops=true) (hf:Region.free md ops listed i=true) (hr:(Region.ready md ops listed).contains i=true)
 (hQ:∀ c a w,Q (.panic c) (a.put oi.dst undef) w→Q (.panic c) a w) (hw:Region.wanted oi (yielded ops a.tmps)=false) (hS:S w)
 (h:wpAnyH P md ops Q S fuel (listed.setIfInBounds i true) (a.put d undef) w):wpAnyH P md ops Q S (fuel+1) listed a w:=by
 subst hd;exact wpAnyH_take hi hs hf hr hQ (Or.inr ⟨hw,rfl⟩) hS h
theorem Qaj {P:Program}{w:World}{ops:Array Oper}{o:Oper}{a:Act}{K:Act→World→Prop}{Q:Exit→Act→World→Prop}{E:Prop}(d:Option Tmp)(hd:o.dst=d)(hgd:o.guard=none)(s x:Operand)(t:TypeId)
 (ho:o.op=.call { callee:=.builtin .append,args:=#[s,x],argTypes:=#[t,t] })
 (e:TypeId) (z:Value) (sz by_:Nat) (hinfo:(P.info? e).map (fun i=>(i.zero,i.size,i.bytes))=some (some z,sz,by_)) (ht:P.underlying t=some (.slice e)) (hzs:z.cells.size=sz) (hs0:0<sz)
 {B n c m c2:Nat} {A X:Option Addr} {xs news:List Value} (hs:a.eval s=.slice A n c) (hx:a.eval x=.slice X m c2)
 (hown:Own w B e sz A n c xs) (hr:Rds w sz X m news) (h1:∀ u∈news,u.oneCell'=true) (hn:(n+m)*by_≤140737488355328) (hnm:n+m≤9223372036854775807) (hB:B≤w.heap.size)
 (h:∀ A' c' w',Own w' B e sz A' (n+m) c' (xs ++news)→w.grownBy w' (Qac A)→(Qac A'=Qac A∨Qac A'=some w.heap.size)→K (a.put d (.slice A' (n+m) c')) w') :
 if Region.wanted o (yielded ops a.tmps)=true then Oper.wp P o a w K Q else E:=by
 subst hd;exact step_app hgd s x t ho e z sz by_ hinfo ht hzs hs0 hs hx hown hr h1 hn hnm hB h
theorem Qgo {P:Program}{f:FuncId}{args:Array Value}{w:World}{n:Nat}{v:Value}
 (h:Calls P f args (w.drewN n) fun e w'=>e=.returned v∧w.drewN n=w'):Calls P f args (w.drewN n) fun e w'=>e=.returned v∧∃ m,w'=w.drewN m :=
 h.mono fun _ _ ⟨he,hm⟩=>⟨he,n,hm.symm⟩
theorem Qbs:(Tryz.prog.info? 3).map (fun i=>(i.zero,i.size,i.bytes))=some (some (.int .i64 0),1,8):=by kernel_rfl
def RdT (w:World)(A:Option Addr)(n:Nat) (ls:List (List Int)):Prop :=
 ls.length=n∧∀ i l,ls[i]?=some l→∃ b o A' n' c',A=some ⟨b,o,none⟩∧w.cell? ⟨b,o+i,none⟩=some (.slice A' n' c')∧RdI w A' n' l∧n'≤c'∧c'≤9223372036854775807
theorem RdT.at_ {w:World}{A:Option Addr}{n i:Nat} {ls:List (List Int)} (h:RdT w A n ls) (hi:i<n) :
 ∃ b o A' n' c' l,A=some ⟨b,o,none⟩∧ls[i]?=some l∧w.cell? ⟨b,o+i,none⟩=some (.slice A' n' c')∧RdI w A' n' l∧n'≤c'∧c'≤9223372036854775807:=by
 have hl:i<ls.length:=by rw [h.1];exact hi
 obtain ⟨b,o,A',n',c',h1,h2,h3,h4,h5⟩:=h.2 i _ (List.getElem?_eq_getElem hl);exact ⟨b,o,A',n',c',_,h1,List.getElem?_eq_getElem hl,h2,h3,h4,h5⟩
theorem RdT.below {w w':World}{A:Option Addr}{n:Nat} {ls:List (List Int)} (h:RdT w A n ls) (hb:Below w.heap.size w w'):RdT w' A n ls :=
 ⟨h.1,fun i l hl=>by
  obtain ⟨b,o,A',n',c',h1,h2,h3,h4,h5⟩:=h.2 i l hl;exact ⟨b,o,A',n',c',h1,Zc hb (Nat.le_refl _) h2,h3.below hb,h4,h5⟩⟩
theorem Blk.two {w:World}{g:Nat}{t:TypeId}{a b:Value} (h:Blk w g t #[a,b]) :
 w.cell? ⟨g,0,none⟩=some a∧w.cell? ⟨g,1,none⟩=some b∧w.frozen? ⟨g,0,none⟩=false∧w.frozen? ⟨g,1,none⟩=false :=
 ⟨by rw [h.cell];rfl,by rw [h.cell];rfl,h.frozen 0,h.frozen 1⟩
theorem Blk.grown {w w':World}{g:Nat}{t:TypeId}{cs:Array Value}{r:Option Nat}(h:Blk w g t cs)(hg:w.grownBy w' r)(hne:r≠some g):Blk w' g t cs :=
 (hg.block g h.lt (fun e=>hne e.symm)).trans h
theorem Own.ne {w:World}{B s n c g:Nat}{e:TypeId}{A:Option Addr}{xs:List Value}(h:Own w B e s A n c xs)(hg:g<B):Qac A≠some g:=fun e'=>by
 have:=(h.lt g e').1;omega
theorem RdK.grown {k:IntKind}{w w':World}{A:Option Addr}{n g:Nat}{l:List Int}(h:RdK k w A n l) (hg:w.grownBy w' (some g)) (hne:Qac A≠some g):RdK k w' A n l :=
 ⟨h.1,fun i x hx=>by
  obtain ⟨b,o,e,hc⟩:=h.2 i x hx;subst e;refine ⟨b,o,rfl,?_⟩;have hb:=Qah hc;have hbne:(some b:Option Nat)≠some g:=hne;have:=hg.block b hb (fun e=>hbne e);unfold World.cell? at hc ⊢;rw [this];exact hc⟩
theorem Qaa (W:World)(g i:Nat)(v:Value):W.grownBy (W.setCell ⟨g,i,none⟩ v) (some g) where
 os:=rfl
 tape:=rfl
 output:=rfl
 size:=by simp [World.setCell]
 block:=fun k hk hne=>Below.heap_setCell W ⟨g,i,none⟩ v k (fun e=>hne (by rw [e]))
theorem Own.capMax {w:World}{B s n c:Nat}{e:TypeId}{A:Option Addr}{xs:List Value}(h:Own w B e s A n c xs):c≤9223372036854775807:=by
 rcases h.2 with ⟨h',h0⟩|⟨g,cap,cur,h1,_,_,_,h4,_⟩
 · cases h';omega
 · cases h1;unfold maxLen at h4;omega
theorem Own.block {w:World}{B s n c:Nat}{e:TypeId}{A:Option Addr}{xs:List Value}(h:Own w B e s A n c xs)(hn:0<n) :
 ∃ g cur,A=some ⟨g,0,none⟩∧B≤g∧Blk w g e cur∧n≤c∧cur.size=c*s∧∀ (j:Nat) (u:Value),xs[j]?=some u→cur[j]?=some u:=by
 rcases h.2 with ⟨_,h0⟩|⟨g,cap,cur,h1,h2,h3,h4,_,h6,h7⟩
 · omega
 · cases h1
   refine ⟨g,cur,rfl,h2,h3,h4,h6,fun j u hu=>?_⟩;rw [←h7,List.getElem?_take] at hu
   split at hu
   · simpa using hu
   · cases hu
theorem RdK.grownN {k:IntKind}{w w':World}{A:Option Addr}{n:Nat}{r:Option Nat}{l:List Int}(h:RdK k w A n l)(hg:w.grownBy w' r)(hne:∀ g,Qac A=some g→r≠some g):RdK k w' A n l :=
 ⟨h.1,fun i x hx=>by
  obtain ⟨b,o,e,hc⟩:=h.2 i x hx;subst e;refine ⟨b,o,rfl,?_⟩;have hb:=Qah hc;have:=hg.block b hb (fun e=>hne b rfl e.symm);unfold World.cell? at hc ⊢;rw [this];exact hc⟩
theorem Qck (R:Option Addr)(m d:Nat):∀ u∈[Value.slice R m d],u.oneCell'=true:=by
 intro u hu;simp at hu;rw [hu]
 rfl
theorem RdK.far {k:IntKind}{w:World}{A:Option Addr}{n g i:Nat}{l:List Int}(h:RdK k w A n l)(v:Value)(hne:Qac A≠some g):RdK k (w.setCell ⟨g,i,none⟩ v) A n l :=
 h.grown (Qaa w g i v) hne
theorem Qdo (n:Nat)(hn:n≤1000000000)(W:World):(Instr.makeSlice 61 (.int .i64 (n:Int)) (.int .i64 (n:Int))).run prog W=.ok (.slice (some ⟨W.heap.size,0,none⟩) n n) (W.alloc (.cells (Qbv (.int .i64 0) n) 3)) :=
 Qfh (P:=prog) 61 3 (.int .i64 0) 8 Qbs underlying61 rfl n (by omega) (by omega) .i64 .i64 W
theorem lit0 {W:World}{B:Nat}{t:TypeId}(hB:B≤W.heap.size):Own (W.alloc (.cells #[] t)) B t 1 (some ⟨W.heap.size,0,none⟩) 0 0 []:=Own.lit W #[] 0 hB (by omega) rfl
/-! Whichever way the next operations come up. -/
section
variable {P:Program} {ops:Array Oper} {Q:Exit→Act→World→Prop} {md:Region.Mode} {S:World→Prop}
def wpC (P:Program)(md:Region.Mode)(ops:Array Oper)(Q:Exit→Act→World→Prop)(S:World→Prop)(L:Array Bool)(C:Act→World→Prop):Nat→Array Bool→Act→World→Prop
 | 0,listed,a,w=>listed=L∧C a w
 | n+1,listed,a,w=>Region.ready md ops listed≠[]∧∀ i∈Region.ready md ops listed,wpOp P ops Q i (fun a' w'=>S w'∧wpC P md ops Q S L C n (listed.setIfInBounds i true) a' w') a w
theorem Qnt {L:Array Bool}{C:Act→World→Prop}{f0:Nat}(h:∀ a w,C a w→wpAnyH P md ops Q S f0 L a w):∀ (n:Nat) (listed:Array Bool) (a:Act) (w:World),wpC P md ops Q S L C n listed a w→wpAnyH P md ops Q S (f0+n) listed a w
 | 0,_,_,_,⟨e,hc⟩=>by subst e;exact h _ _ hc
 | n+1,listed,a,w,⟨hne,hall⟩=>wpAnyH_all (fuel:=f0+n) rfl hne (fun i hi=>wpOp_mono (fun a' w' h'=>⟨h'.1,Qnt h n _ a' w' h'.2⟩) (hall i hi))
def Qaz (P:Program)(md:Region.Mode)(ops:Array Oper)(Q:Exit→Act→World→Prop)(S:World→Prop)(L:Array Bool)(C:Act→World→Prop)(n:Nat)(listed:Array Bool)(a:Act)(w:World)(rs:List Nat):Prop :=
 ∀ i∈rs,wpOp P ops Q i (fun a' w'=>S w'∧wpC P md ops Q S L C n (listed.setIfInBounds i true) a' w') a w
theorem Qaz.nil {L:Array Bool}{C:Act→World→Prop}{n:Nat}{listed:Array Bool}{a:Act}{w:World}:Qaz P md ops Q S L C n listed a w []:=fun _ h=>by cases h
theorem Qaz.cons {L:Array Bool}{C:Act→World→Prop}{n:Nat}{listed:Array Bool}{a:Act}{w:World}{i:Nat}{o:Oper}{rs:List Nat} (ho:ops[i]?=some o)
 (h:∀ K':Act→World→Prop,Shut (∀ a w,S w→(S w→wpC P md ops Q S L C n (listed.setIfInBounds i true) a w)→K' a w)→if Region.wanted o (yielded ops a.tmps)=true then Oper.wp P o a w K' Q else K' (a.put o.dst undef) w)
 (hs:Qaz P md ops Q S L C n listed a w rs):Qaz P md ops Q S L C n listed a w (i::rs):=fun j hj=>by
 rcases List.mem_cons.1 hj with rfl|hj
 · exact wpOp_step ho (fun K' hK=>h K' (fun a w hS hW=>hK a w ⟨hS,hW hS⟩))
 · exact hs j hj
theorem Qae {L:Array Bool}{C:Act→World→Prop}{rs:List Nat}{n:Nat}{listed:Array Bool}{a:Act}{w:World}(hr:Region.ready md ops listed=rs) (hne:rs≠[]) (h:Qaz P md ops Q S L C n listed a w rs):wpC P md ops Q S L C (n+1) listed a w :=
 ⟨hr▸hne,hr▸h⟩
theorem Qqq {G:Value→Value→Value→World→Prop}{L listed:Array Bool}{f0 fuel:Nat}{a:Act}{w:World}(d1 d2 d3:Option Tmp)(hf:fuel=f0+3)
 (hA:∀ C:Act→World→Prop,Shut (∀ v1 v2 v3 w',G v1 v2 v3 w'→C (((a.put d1 v1).put d2 v2).put d3 v3) w')→wpC P md ops Q S L C 3 listed a w)
 (hB:∀ v1 v2 v3 w',G v1 v2 v3 w'→wpAnyH P md ops Q S f0 L (((a.put d1 v1).put d2 v2).put d3 v3) w'):wpAnyH P md ops Q S fuel listed a w:=by
 subst hf;exact Qnt (C:=fun a' w'=>wpAnyH P md ops Q S f0 L a' w') (fun _ _ h=>h) 3 listed a w (hA _ hB)
end
/-! Shorter words (fill.py's TAKES, TAKEU, (by repeat (first | exact Below.refl _ _ | assumption | apply Below.drew | apply Qbi | apply Bel.alloc | (refine Zi ?_ ?_; rotate_left; omega) | (refine Zb ?_ (by assumption)))), (by repeat (first | assumption | apply Blk.drewN | apply Blk.drew | apply Blk.alloc | (refine Blk.far_ ?_ ?_ _; rotate_left; omega))), (by repeat (first | assumption | (refine Blk.new' _ _ _ ?_; first | with_unfolding_all rfl | (simp; done)) | apply Blk.drewN | apply Blk.drew | apply Blk.alloc | (refine Blk.far_ ?_ ?_ _; rotate_left; omega)))) -/
theorem tv {p:Prop} (h:p:=by (intro V hSw;(try (have hF:=HSX.out V hSw));(try (cases hSw));(try go_split_ands);go_simp;try with_reducible rfl)):p:=h
section
variable {P:Program} {ops:Array Oper} {Q:Exit→Act→World→Prop} {md:Region.Mode} {S:World→Prop} {oi:Oper} {fuel:Nat} {listed:Array Bool} {a:Act} {w:World}
theorem tk (i d:Nat) (hi:ops[i]?=some oi:=by rfl) (hd:oi.dst=some d:=by rfl) (hs:Region.noSelect ops=true:=by kernel_rfl) (hf:Region.free md ops listed i=true:=by kernel_rfl) (hr:(Region.ready md ops listed).contains i=true:=by kernel_rfl)
 (hQ:∀ c a w v,Q (.panic c) (a.put oi.dst v) w→Q (.panic c) a w:=by exact fun _ _ _ _ h=>h) (hw:Region.wanted oi (yielded ops a.tmps)=true:=by rfl) (hS:S w:=by first|rfl|trivial|assumption)
 (h:∃ v,(∀ w,S w→(execOp a.eval oi).run P w=.ok (.value v) w)∧wpAnyH P md ops Q S fuel (listed.setIfInBounds i true) (a.put (some d) v) w):wpAnyH P md ops Q S (fuel+1) listed a w:=by
 obtain ⟨v,h1,h2⟩:=h;exact take_ (i:=i) (d:=some d) (v:=v) hi hd hs hf hr (fun c a w=>hQ c a w v) hw h1 hS h2
theorem tu (i d:Nat) (hi:ops[i]?=some oi:=by rfl) (hd:oi.dst=some d:=by rfl) (hs:Region.noSelect ops=true:=by kernel_rfl) (hf:Region.free md ops listed i=true:=by kernel_rfl) (hr:(Region.ready md ops listed).contains i=true:=by kernel_rfl)
 (hQ:∀ c a w,Q (.panic c) (a.put oi.dst undef) w→Q (.panic c) a w:=by exact fun _ _ _ h=>h) (hw:Region.wanted oi (yielded ops a.tmps)=false:=by rfl) (hS:S w:=by first|rfl|trivial|assumption)
 (h:wpAnyH P md ops Q S fuel (listed.setIfInBounds i true) (a.put (some d) undef) w):wpAnyH P md ops Q S (fuel+1) listed a w :=
 takeU_ (i:=i) (d:=some d) hi hd hs hf hr hQ hw hS h
end
theorem pE (l:List Value)(ds:List Deferred)(k:Nat)(v:Value):Act.put ⟨l.toArray,ds⟩ (some k) v=⟨(l.set k v).toArray,ds⟩:=by simp [Act.put]
theorem Qag {B:Nat}{w w':World} (h:Below B w w':=by repeat (first|exact Below.refl _ _|assumption|apply Below.drew|apply Qbi|apply Bel.alloc|(refine Zi ?_ ?_;rotate_left;omega)|(refine Zb ?_ (by assumption)))):Below B w w':=h
theorem Qng {w:World}{g:Nat}{t:TypeId}{cs:Array Value} (h:Blk w g t cs:=by repeat (first|assumption|apply Blk.drewN|apply Blk.drew|apply Blk.alloc|(refine Blk.far_ ?_ ?_ _;rotate_left;omega))):Blk w g t cs:=h
theorem Qay {w:World}{g:Nat}{t:TypeId}{cs:Array Value} (h:Blk w g t cs:=by repeat (first|assumption|(refine Blk.new' _ _ _ ?_;first|with_unfolding_all rfl|(simp;done))|apply Blk.drewN|apply Blk.drew|apply Blk.alloc|(refine Blk.far_ ?_ ?_ _;rotate_left;omega))):Blk w g t cs:=h
theorem tz {P:Program}{ops:Array Oper}{Q:Exit→Act→World→Prop}{md:Region.Mode}{S:World→Prop}{oi:Oper}{fuel:Nat}{listed:Array Bool}{l l':List Value}{ds:List Deferred}{w:World}{v:Value}(i d:Nat) (h:wpAnyH P md ops Q S fuel (listed.setIfInBounds i true) ⟨l'.toArray,ds⟩ w) (hi:ops[i]?=some oi:=by rfl) (hd:oi.dst=some d:=by rfl) (hs:Region.noSelect ops=true:=by kernel_rfl) (hf:Region.free md ops listed i=true:=by kernel_rfl) (hr:(Region.ready md ops listed).contains i=true:=by kernel_rfl)
    (hQ:∀ c a w v,Q (.panic c) (a.put oi.dst v) w→Q (.panic c) a w:=by exact fun _ _ _ _ h=>h) (hw:Region.wanted oi (yielded ops l.toArray)=true:=by rfl) (hS:S w:=by first|rfl|trivial|assumption) (hl:l.set d v=l':=by simp only [List.set];rfl)
    (hv:∀ w,S w→(execOp (Act.eval ⟨l.toArray,ds⟩) oi).run P w=.ok (.value v) w:=by (intro V hSw;(try (have hF:=HSX.out V hSw));(try (cases hSw));(try go_split_ands);go_simp;try with_reducible rfl)):wpAnyH P md ops Q S (fuel+1) listed ⟨l.toArray,ds⟩ w:=by
  subst hl;exact tk i d hi hd hs hf hr hQ hw hS ⟨v,hv,by rw [pE];exact h⟩
theorem tw {P:Program}{ops:Array Oper}{Q:Exit→Act→World→Prop}{md:Region.Mode}{S:World→Prop}{oi:Oper}{fuel:Nat}{listed:Array Bool}{l l':List Value}{ds:List Deferred}{w:World}(i d:Nat) (h:wpAnyH P md ops Q S fuel (listed.setIfInBounds i true) ⟨l'.toArray,ds⟩ w) (hi:ops[i]?=some oi:=by rfl) (hd:oi.dst=some d:=by rfl) (hs:Region.noSelect ops=true:=by kernel_rfl) (hf:Region.free md ops listed i=true:=by kernel_rfl) (hr:(Region.ready md ops listed).contains i=true:=by kernel_rfl)
    (hQ:∀ c a w,Q (.panic c) (a.put oi.dst undef) w→Q (.panic c) a w:=by exact fun _ _ _ h=>h) (hw:Region.wanted oi (yielded ops l.toArray)=false:=by rfl) (hS:S w:=by first|rfl|trivial|assumption) (hl:l.set d undef=l':=by simp only [List.set];rfl):wpAnyH P md ops Q S (fuel+1) listed ⟨l.toArray,ds⟩ w:=by
  subst hl;exact tu i d hi hd hs hf hr hQ hw hS (by rw [pE];exact h)
theorem Zk {P:Program}{ops:Array Oper}{Q:Exit→Act→World→Prop}{md:Region.Mode}{S:World→Prop}{fuel:Nat}{listed:Array Bool}{a:Act}{w:World}(k:Nat){o:Oper}
    (h:∀ K':Act→World→Prop,Shut (∀ a w,S w→(S w→wpAnyH P md ops Q S fuel (listed.setIfInBounds k true) a w)→K' a w)→if Region.wanted o (yielded ops a.tmps)=true then Oper.wp P o a w K' Q else K' (a.put o.dst undef) w)
    (hr:Region.ready md ops listed=[k]:=by kernel_rfl) (ho:ops[k]?=some o:=by rfl):wpAnyH P md ops Q S (fuel+1) listed a w:=wpAnyH_ready hr (by simp) (AllReadyH.cons ho h AllReadyH.nil)
theorem Zh {p:Prop}(h:p):RowKit.Hid p:=Lib.hid h
theorem Zs {α:Type _}{l:List α}{i:Nat}{a:α} (h:l[i]?=some a):∃ h:i<l.length,l[i]=a:=List.getElem?_eq_some_iff.1 h
theorem Zg {α:Type _}{l:List α}{i:Nat}(h:i<l.length):l[i]?=some l[i]:=List.getElem?_eq_getElem h
theorem Zm {α:Type _}{l:List α}{i:Nat}{a:α} (h:l[i]?=some a):a∈l:=List.mem_of_getElem? h
theorem Zn (n:Nat):n≤n:=Nat.le_refl n
theorem Zr (B:Nat)(w:World):Below B w w:=Below.refl B w
theorem Zq {w:World}{g i:Nat}{t:TypeId}{cs:Array Value}{v:Value}(h:Blk w g t cs) (e:cs[i]?=some v:=by rfl):w.cell? ⟨g,i,none⟩=some v:=(h.cell i).trans e
theorem Zd {P:Program}{ops:Array Oper}{Q:Exit→Act→World→Prop}{md:Region.Mode}{S:World→Prop}{fuel:Nat}{listed:Array Bool}{a:Act}{w:World}(h:Q .normal a w) (hr:Region.ready md ops listed=[]:=by kernel_rfl):wpAnyH P md ops Q S fuel listed a w:=wpAnyH_done hr h _
theorem Ya {α:Type _}{l:List α}{i:Nat}{a:α}:l.getD i a=l[i]?.getD a:=List.getD_eq_getElem?_getD
theorem Yb {α:Type _}{l₁ l₂:List α}{i:Nat}(h:l₁.length≤i):(l₁ ++l₂)[i]?=l₂[i-l₁.length]?:=List.getElem?_append_right h
theorem Yc {α:Type _}{l₁ l₂:List α}{i:Nat}(h:i<l₁.length):(l₁ ++l₂)[i]?=l₁[i]?:=List.getElem?_append_left h
theorem Yd {α:Type _}{l:List α}{i:Nat}(h:l.length≤i):l[i]?=none:=List.getElem?_eq_none h
theorem Ye {α:Type _}{l:List α}{i:Nat}(h:l.length≤i):l.take i=l:=List.take_of_length_le h
theorem Yf {α:Type _}{l:List α}{i:Nat}(h:i<l.length):l.take (i+1)=l.take i ++[l[i]]:=List.take_succ_eq_append_getElem h
theorem Yg {α:Type _}{l:List α}{i:Nat}{a:α}(h:i<l.length):(l.set i a)[i]?=some a:=List.getElem?_set_self h
theorem Yh {α:Type _}{l:List α}{i j:Nat}(h:i≠j){a:α}:(l.set i a)[j]?=l[j]?:=List.getElem?_set_ne h
theorem Yi {α:Type _}{l:List α}{i:Nat}{a:α}:l.toArray.setIfInBounds i a=(l.set i a).toArray:=List.setIfInBounds_toArray ..
theorem Yj {α:Type _}{l:List α}{a b:α}:(a::l).set 0 b=b::l:=List.set_cons_zero
theorem Yk {α:Type _}{l:List α}{i:Nat}{a b:α}:(a::l).set (i+1) b=a::l.set i b:=List.set_cons_succ
theorem Yl (n:Nat):((n:Int)).toNat=n:=Int.toNat_natCast n
theorem Yn {α:Type _}{l:List α}{a:α}:(a::l)[0]?=some a:=List.getElem?_cons_zero
theorem Yo {α:Type _}{l:List α}{i:Nat}:l.toArray[i]?=l[i]?:=List.getElem?_toArray
theorem Yp {α:Type _}{l₁ l₂:List α}:(l₁ ++l₂).length=l₁.length+l₂.length:=List.length_append
theorem Yq {α:Type _}{l:List α}{i:Nat}{a:α}:(l.set i a).length=l.length:=List.length_set
theorem Yr {α:Type _}{a:α}{l:List α}(h:a∈l):∃ i:Nat,l[i]?=some a:=List.getElem?_of_mem h
theorem Yt {α β:Type _}{f:α→β}{l:List α}{i:Nat}:(l.map f)[i]?=Option.map f l[i]?:=List.getElem?_map
theorem Yu {n m k:Nat}(h:n<m)(g:m≤k):n<k:=Nat.lt_of_lt_of_le h g
theorem Yv {α:Type _}{a b:α}(h:some a=some b):a=b:=Option.some.inj h
theorem Yw {α:Type _}{i:Nat}{l:List α}:(l.take i).length=min i l.length:=List.length_take
theorem Yx {n m k:Nat}(h:n≤m)(g:m≤k):n≤k:=Nat.le_trans h g
theorem Yy (n:Nat):n-n=0:=Nat.sub_self n
theorem Yz (n:Nat):0+n=n:=Nat.zero_add n
def RdW (w:World)(A:Option Addr)(n:Nat) (l:List (ByteArray×Int)):Prop :=
 l.length=n∧∀ i x,l[i]?=some x→∃ b o,A=some ⟨b,o,none⟩∧w.cell? ⟨b,o+i*2,none⟩=some (.string x.1)∧w.cell? ⟨b,o+i*2+1,none⟩=some (.int .i64 x.2)
theorem RdW.below {w w':World}{A:Option Addr}{n:Nat} {l:List (ByteArray×Int)} (h:RdW w A n l) (hb:Below w.heap.size w w'):RdW w' A n l :=
 ⟨h.1,fun i x hx=>by obtain ⟨b,o,e,hc,hd⟩:=h.2 i x hx;exact ⟨b,o,e,Zc hb (Zn _) hc,Zc hb (Zn _) hd⟩⟩
def Wrg (w:World)(v:Value) (ps:List (ByteArray×Int)) (c:Int):Prop:=∃ A n m,v=.agg #[.slice A n m,.int .i64 c]∧RdW w A n ps∧n≤1000000
theorem Qzz (s:ByteArray)(k c:Int)(w:World):Calls prog 27 #[.string s,.int .i64 k,.int .i64 c] w fun e w'=>∃ v,e=.returned v∧Wrg w' v [(s,k)] c∧Below w.heap.size w w':=by
 go_enter func27,ntmps27
 go_wp2
 refine bodyPost_ret (v:=.agg #[.slice (some ⟨w.heap.size+1,0,none⟩) 1 1,.int .i64 c]) (by simp [results,results27,go_sem]) rfl ?_;refine ⟨_,rfl,⟨_,1,1,rfl,⟨rfl,fun i x hx=>?_⟩,by omega⟩,Qag⟩
 match i,hx with
 | 0,hx=>cases hx;exact ⟨_,_,rfl,by simp,by simp⟩
 | i+1,hx=>simp at hx
abbrev Tri:=Int×Int×Int
def Qap:List Tri→List Value
 | []=>[]
 | p::t=>.int .i64 p.1::.int .i64 p.2.1::.int .i64 p.2.2::Qap t
theorem Qja:∀ l:List Tri,(Qap l).length=l.length*3
 | []=>rfl
 | _::t=>by simp [Qap,Qja t];omega
theorem Qec:∀ l m:List Tri,Qap (l ++m)=Qap l ++Qap m
 | [],_=>rfl
 | p::t,m=>by simp [Qap,Qec t m]
theorem Qnf:∀ {l:List Tri}{i:Nat}{p:Tri},l[i]?=some p→(Qap l)[i*3]?=some (.int .i64 p.1)∧(Qap l)[i*3+1]?=some (.int .i64 p.2.1)∧(Qap l)[i*3+2]?=some (.int .i64 p.2.2)
 | [],i,p,h=>by simp at h
 | q::t,0,p,h=>by simp at h;subst h;simp [Qap]
 | q::t,i+1,p,h=>by
  have:=Qnf (l:=t) (i:=i) (p:=p) (by simpa using h);rw [show (i+1)*3=i*3+1+1+1 by omega,show i*3+1+1+1+1=(i*3+1)+1+1+1 by omega,show i*3+1+1+1+2=(i*3+2)+1+1+1 by omega]
  simpa [Qap] using this
theorem Qaq (l:List Tri):∀ u∈Qap l,u.oneCell'=true:=by
 induction l with
 | nil=>intro u hu;cases hu
 | cons p t ih =>
  intro u hu;simp only [Qap,List.mem_cons] at hu
  rcases hu with rfl|rfl|rfl|hu
  · rfl
  · rfl
  · rfl
  · exact ih u hu
def Rd3 (w:World)(A:Option Addr)(n:Nat)(l:List Tri):Prop :=
 l.length=n∧∀ i x,l[i]?=some x→∃ b o,A=some ⟨b,o,none⟩∧w.cell? ⟨b,o+i*3,none⟩=some (.int .i64 x.1)∧w.cell? ⟨b,o+i*3+1,none⟩=some (.int .i64 x.2.1)∧w.cell? ⟨b,o+i*3+2,none⟩=some (.int .i64 x.2.2)
theorem Rd3.at_ {w:World}{A:Option Addr}{n i:Nat}{l:List Tri}(h:Rd3 w A n l)(hi:i<n) :
 ∃ b o x y z,A=some ⟨b,o,none⟩∧l[i]?=some (x,y,z)∧w.cell? ⟨b,o+i*3,none⟩=some (.int .i64 x)∧w.cell? ⟨b,o+i*3+1,none⟩=some (.int .i64 y)∧w.cell? ⟨b,o+i*3+2,none⟩=some (.int .i64 z):=by
 have hl:i<l.length:=by rw [h.1];exact hi
 obtain ⟨b,o,e,hc⟩:=h.2 i _ (Zg hl);exact ⟨b,o,_,_,_,e,Zg hl,hc⟩
theorem Rd3.below {w w':World}{A:Option Addr}{n:Nat}{l:List Tri}(h:Rd3 w A n l)(hb:Below w.heap.size w w'):Rd3 w' A n l :=
 ⟨h.1,fun i x hx=>by
  obtain ⟨b,o,e,h1,h2,h3⟩:=h.2 i x hx;exact ⟨b,o,e,Zc hb (Zn _) h1,Zc hb (Zn _) h2,Zc hb (Zn _) h3⟩⟩
theorem Rds.rd3 {w:World}{n:Nat}{A:Option Addr}{l:List Tri} (h:Rds w 3 A n (Qap l)):Rd3 w A n l :=
 ⟨by have:=h.1;rw [Qja] at this;omega,fun i p hp=>by
  obtain ⟨h1,h2,h3⟩:=Qnf hp;obtain ⟨b,o,e,c1⟩:=h.2 _ _ h1;obtain ⟨b',o',e',c2⟩:=h.2 _ _ h2;rw [e] at e';cases e'
  obtain ⟨b',o',e',c3⟩:=h.2 _ _ h3;rw [e] at e';cases e'
  exact ⟨b,o,e,c1,by rw [Nat.add_assoc];exact c2,by rw [Nat.add_assoc];exact c3⟩⟩
theorem Qqj:∀ {l:List Tri}{j:Nat}{u:Value},(Qap l)[j]?=some u→∃ p,l[j / 3]?=some p∧((j % 3=0∧u=.int .i64 p.1)∨(j % 3=1∧u=.int .i64 p.2.1)∨(j % 3=2∧u=.int .i64 p.2.2))
 | [],j,u,h=>by simp [Qap] at h
 | q::t,0,u,h=>by simp [Qap] at h;exact ⟨q,by simp,.inl ⟨rfl,h.symm⟩⟩
 | q::t,1,u,h=>by simp [Qap] at h;exact ⟨q,by simp,.inr (.inl ⟨rfl,h.symm⟩)⟩
 | q::t,2,u,h=>by simp [Qap] at h;exact ⟨q,by simp,.inr (.inr ⟨rfl,h.symm⟩)⟩
 | q::t,j+3,u,h=>by
  obtain ⟨p,h1,h2⟩:=Qqj (l:=t) (j:=j) (u:=u) (by simpa [Qap] using h);refine ⟨p,?_,?_⟩
  · rw [show (j+3) / 3=j / 3+1 by omega];simpa using h1
  · rw [show (j+3) % 3=j % 3 by omega];exact h2
theorem Rd3.rds {w:World}{n:Nat}{A:Option Addr}{l:List Tri}(h:Rd3 w A n l):Rds w 3 A n (Qap l) :=
 ⟨by rw [Qja,h.1],fun j u hu=>by
  obtain ⟨p,hp,hu'⟩:=Qqj hu;obtain ⟨b,o,e,h1,h2,h3⟩:=h.2 _ p hp;refine ⟨b,o,e,?_⟩
  rcases hu' with ⟨hm,rfl⟩|⟨hm,rfl⟩|⟨hm,rfl⟩
  · rw [show o+j=o+j / 3*3 by omega];exact h1
  · rw [show o+j=o+j / 3*3+1 by omega];exact h2
  · rw [show o+j=o+j / 3*3+2 by omega];exact h3⟩
structure Qcv where
 ins:Int
 outs:Int
 costs:List Int
def Qpp (w:World)(b o:Nat)(t:Qcv):Prop:=w.cell? ⟨b,o,none⟩=some (.int .i64 t.ins)∧w.cell? ⟨b,o+1,none⟩=some (.int .i64 t.outs)∧∃ (A:Option Addr) (n c:Nat),w.cell? ⟨b,o+2,none⟩=some (.slice A n c)∧RdI w A n t.costs∧n≤c∧c≤9223372036854775807
theorem Qpp.below {w w':World}{b o:Nat}{t:Qcv}(h:Qpp w b o t)(hb:Below w.heap.size w w'):Qpp w' b o t:=by
 obtain ⟨h1,h2,A,n,c,h3,h4,h5⟩:=h;exact ⟨Zc hb (Zn _) h1,Zc hb (Zn _) h2,A,n,c,Zc hb (Zn _) h3,h4.below hb,h5⟩
def RdY (w:World)(A:Option Addr)(n:Nat)(l:List Qcv):Prop:=l.length=n∧∀ i t,l[i]?=some t→∃ b o,A=some ⟨b,o,none⟩∧Qpp w b (o+i*3) t
theorem RdY.at_ {w:World}{A:Option Addr}{n i:Nat}{l:List Qcv}(h:RdY w A n l)(hi:i<n):∃ b o t,A=some ⟨b,o,none⟩∧l[i]?=some t∧Qpp w b (o+i*3) t:=by
 have hl:i<l.length:=by rw [h.1];exact hi
 obtain ⟨b,o,e,hc⟩:=h.2 i _ (Zg hl);exact ⟨b,o,_,e,Zg hl,hc⟩
theorem RdY.below {w w':World}{A:Option Addr}{n:Nat}{l:List Qcv}(h:RdY w A n l)(hb:Below w.heap.size w w'):RdY w' A n l :=
 ⟨h.1,fun i t ht=>by obtain ⟨b,o,e,hc⟩:=h.2 i t ht;exact ⟨b,o,e,hc.below hb⟩⟩
structure Qak where
 vs:List Tri
 ar:List Tri
 ts:List Qcv
def Qbg (w:World)(A B C:Option Addr)(n m k:Nat)(N:Qak):Prop:=Rd3 w A n N.vs∧Rd3 w B m N.ar∧RdY w C k N.ts
theorem Qbg.below {w w':World}{A B C:Option Addr}{n m k:Nat}{N:Qak}(h:Qbg w A B C n m k N)(hb:Below w.heap.size w w'):Qbg w' A B C n m k N:=⟨h.1.below hb,h.2.1.below hb,h.2.2.below hb⟩
def wOk (a:Int):Bool:=(decide (0≤a) && decide (a≤2147483648)) || decide (a=1152921504606846976)
def Qgz (x:Int):Bool:=decide (-1048576≤x) && decide (x≤1048576)
structure Qhf (t:Qcv):Prop where
 i0:0≤t.ins
 i16:t.ins≤16
 o0:0≤t.outs
 o16:t.outs≤16
 len:(t.costs.length:Int)=t.ins*t.outs
 ok:∀ c∈t.costs,wOk c=true
def Qza (l:List Tri)(v:Nat):Nat:=l.countP (fun a=>a.2.1 == (v:Int))
def Qzm (l:List Tri)(v:Nat):Nat:=l.countP (fun a=>a.1 == (v:Int))
structure Qxd (k:Nat) (v:Tri):Prop where
 x:Qgz v.1=true
 y:Qgz v.2.1=true
 t0:0≤v.2.2
 t1:v.2.2<k
structure ArcOk (n:Nat) (a:Tri):Prop where
 f0:0≤a.1
 f1:a.1<n
 g0:0≤a.2.1
 g1:a.2.1<n
 w:wOk a.2.2=true
structure Qas (N:Qak):Prop where
 lv:N.vs.length≤4096
 la:N.ar.length≤16384
 lt:N.ts.length≤256
 tabs:∀ t∈N.ts,Qhf t
 verts:∀ v∈N.vs,Qxd N.ts.length v
 arcs:∀ a∈N.ar,ArcOk N.vs.length a
 meet:∀ (i:Nat) v t,N.vs[i]?=some v→N.ts[v.2.2.toNat]?=some t→(Qza N.ar i:Int)=t.ins∧(Qzm N.ar i:Int)=t.outs
attribute [local go_sem ↓] Go.wp_at_zero Go.wp_at_succ
def Wg (B:Nat)(w:World)(A:Option Addr)(k c:Nat):Prop:=∃ xs,Own w B 152 2 A k c xs∧(∀ u∈xs,u.oneCell'=true)∧k≤1000000
theorem Wg.none (B:Nat)(w:World):Wg B w none 0 0:=⟨[],Own.nil _ _ _ _,by simp,by omega⟩
theorem Wg.setCell {B:Nat}{w:World}{A:Option Addr}{k c:Nat}(h:Wg B w A k c){a:Addr}(ha:a.block<B)(u:Value):Wg B (w.setCell a u) A k c:=by
 obtain ⟨xs,h1,h2⟩:=h;exact ⟨xs,ownsRow_setCell_below h1 ha u,h2⟩
theorem Wg.mono {B B':Nat}{w:World}{A:Option Addr}{k c:Nat}(h:Wg B w A k c)(hB:B'≤B):Wg B' w A k c:=by
 obtain ⟨xs,h1,h2⟩:=h;exact ⟨xs,h1.mono hB,h2⟩
theorem Wg.alloc {B:Nat}{w:World}{A:Option Addr}{k c:Nat}(h:Wg B w A k c)(o:Obj):Wg B (w.alloc o) A k c:=by
 obtain ⟨xs,h1,h2⟩:=h;exact ⟨xs,h1.alloc o,h2⟩
def Qcy (G:Prop)(B:Nat)(e:Ending)(w:World):Prop:=∃ (A:Option Addr) (k c:Nat) (x:Int),e=.returned (.agg #[.slice A k c,.int .i64 x])∧Wg B w A k c∧((x=0∧G)∨x≠0)
theorem Qcy.no {G:Prop}{B:Nat}{w:World}{A:Option Addr}{k c:Nat}{x:Int}(hg:Wg B w A k c)(hx:x≠0):Qcy G B (.returned (.agg #[.slice A k c,.int .i64 x])) w:=⟨A,k,c,x,rfl,hg,.inr hx⟩
def Qby (G:Prop)(e:Ending):Prop:=∃ (A:Option Addr) (k c:Nat) (x:Int),e=.returned (.agg #[.slice A k c,.int .i64 x])∧((x=0∧G)∨x≠0)
theorem Qby.no {G:Prop}{A:Option Addr}{k c:Nat}{x:Int}(hx:x≠0):Qby G (.returned (.agg #[.slice A k c,.int .i64 x])):=⟨A,k,c,x,rfl,.inr hx⟩
def RetAgg (B:Nat)(x:Int)(e:Ending)(w:World):Prop:=∃ (A:Option Addr) (k c:Nat),e=.returned (.agg #[.slice A k c,.int .i64 x])∧Wg B w A k c
theorem Qba (s:ByteArray)(k c:Int)(w:World):Calls prog 27 #[.string s,.int .i64 k,.int .i64 c] w fun e w'=>RetAgg w.heap.size c e w'∧Below w.heap.size w w':=by
 go_enter func27,ntmps27
 go_wp2
 refine bodyPost_ret (v:=.agg #[.slice (some ⟨w.heap.size+1,0,none⟩) 1 1,.int .i64 c]) (by simp [results,results27,go_sem]) rfl ?_;refine ⟨⟨_,_,_,rfl,Wg.mono (B:=w.heap.size+1) ?_ (by omega)⟩,Qag⟩;have hz:∀ o,(w.alloc o).heap.size=w.heap.size+1:=fun o=>by show (w.heap.push o).size=_;exact Array.size_push ..
 have hO:=Own.lit (B:=w.heap.size+1) (s:=2) (e:=152) (w.alloc (.cells #[.slice (some ⟨w.heap.size+1,0,none⟩) 1 1,.int .i64 c] 66)) #[.string s,.int .i64 k] 1 (by rw [hz];exact Zn _) (by omega) rfl;rw [hz] at hO;refine ⟨_,hO,?_,by omega⟩;simp [Value.oneCell']
theorem Qyo {a:Int} (h:¬(0≤a∧a≤2147483648)):wOk a=(a == 1152921504606846976):=by
 unfold wOk
 have:(decide (0≤a) && decide (a≤2147483648))=false:=by
  cases e:(decide (0≤a) && decide (a≤2147483648))
  · rfl
  · simp only [Bool.and_eq_true,decide_eq_true_eq] at e;exact absurd e h
 rw [this,Bool.false_or]
 by_cases h2:a=1152921504606846976
 · simp [h2]
 · rw [decide_eq_false h2];symm;simpa using h2
theorem Qci (a:Int)(w:World):Calls prog 91 #[.int .i64 a] w fun e w'=>e=.returned (.bool (wOk a))∧w=w':=by
 by_cases h0:0≤a
 · by_cases h1:a≤2147483648
   · go_enter func91,ntmps91
     go_wp2
     go_ret
     exact ⟨Qbh (by simp [wOk,h0,h1]),rfl⟩
   · go_enter func91,ntmps91
     go_wp2
     go_ret
     exact ⟨Qbh (Qyo (by omega)).symm,rfl⟩
 · go_enter func91,ntmps91
   go_wp2
   go_ret
   exact ⟨Qbh (Qyo (by omega)).symm,rfl⟩
theorem Qcl (a:Int)(w:World):Calls prog 95 #[.int .i64 a] w fun e w'=>e=.returned (.bool (wOk a))∧w=w':=by
 by_cases hI:a=1152921504606846976
 · subst hI
   go_enter func95,ntmps95
   go_wp2
   go_ret
   exact ⟨Qbh (by decide),rfl⟩
 · have h9:(a == 1152921504606846976)=false:=by simpa using hI
   have HI:=Zh hI;clear hI
   by_cases h0:0≤a
   · go_enter func95,ntmps95
     go_wp2
     go_ret
     exact ⟨Qbh (by unfold wOk;rw [decide_eq_true h0,decide_eq_false HI.out];simp),rfl⟩
   · go_enter func95,ntmps95
     go_wp2
     go_ret
     exact ⟨Qbh (by rw [Qyo (by omega)];exact h9.symm),rfl⟩
theorem Qqk (x:Int)(w:World):Calls prog 171 #[.int .i64 x] w fun e w'=>e=.returned (.bool (Qgz x))∧w=w':=by
 by_cases h1 : -1048576≤x
 all_goals
  go_enter func171,ntmps171
  go_wp2
  go_ret
  exact ⟨Qbh (by simp [Qgz];omega),rfl⟩
theorem far_ok (x:Int)(w:World)(h:Qgz x=true):Calls prog 173 #[.int .i64 x] w fun e w'=>e=.returned (.bool false)∧w=w':=by
 unfold Qgz at h;simp only [Bool.and_eq_true,decide_eq_true_eq] at h;obtain ⟨h1,h2⟩:=h
 go_enter func173,ntmps173
 go_wp2
 go_ret
 exact ⟨Qbh (by simp;omega),rfl⟩
theorem Qpz (A B C:Option Addr)(n m k c d e:Nat)(v:Int)(w:World)(h0:0≤v)(h1:v<n) :
 Calls prog 174 #[.agg #[.slice A n c,.slice B m d,.slice C k e],.int .i64 v] w fun e w'=>e=.returned (.bool true)∧Below w.heap.size w w':=by
 go_enter func174,ntmps174
 go_wp2
 go_ret
 exact ⟨rfl,Qag⟩
theorem Qti (i o:Int)(w:World)(i0:0≤i)(i16:i≤16)(o0:0≤o)(o16:o≤16):Calls prog 169 #[.int .i64 i,.int .i64 o] w fun e w'=>e=.returned .nilIface∧w=w':=by
 go_enter func169,ntmps169
 go_wp2
 exact Kbd
theorem Qlf {a b:Int}(a0:0≤a)(a16:a≤16)(b0:0≤b)(b16:b≤16):0≤a*b∧a*b≤256 :=
 ⟨Int.mul_nonneg a0 b0,by
  have h1:a*b≤16*b:=Int.mul_le_mul_of_nonneg_right a16 b0;omega⟩
set_option maxHeartbeats 1000000 in
theorem Qjf (A:Option Addr)(n c:Nat)(t:Qcv)(w:World)(h:RdI w A n t.costs)(ht:Qhf t) :
 Calls prog 146 #[.agg #[.int .i64 t.ins,.int .i64 t.outs,.slice A n c]] w fun e w'=>e=.returned .nilIface∧Below w.heap.size w w':=by
 obtain ⟨i,o,cs⟩:=t;have i0:0≤i:=ht.i0;have i16:i≤16:=ht.i16;have o0:0≤o:=ht.o0;have o16:o≤16:=ht.o16;have hm:=Qlf i0 i16 o0 o16;have hl:(cs.length:Int)=i*o:=ht.len;have h:RdI w A n cs:=h;rw [h.1] at hl;have hok:=ht.ok;simp only at hok;have HOK:=Zh hok;have HL:=Zh hl;have j1:IntKind.i64.wrap (i*o)=i*o:=IntWalk.i64_in _ (by omega);have j2:((n:Int) != i*o)=false:=by simpa using hl
 have j3:((n:Int) == i*o)=true:=by simpa using hl
 have HSD:=Zh (show ∀ V,Calls prog 169 #[.int .i64 i,.int .i64 o] V fun e w'=>e=.returned .nilIface∧V=w' from fun V=>Qti i o V i0 i16 o0 o16)
 have hn:n≤256:=by omega
 clear hok hl ht
 go_enter func146,ntmps146
 go_wp2_with fail
 (refine Qab ?_;intro w1 hw1)
 have hb1:Below w.heap.size w w1:=by rw [hw1];exact Qag
 have hB1:Blk w1 w.heap.size 193 #[.int .i64 i,.int .i64 o,.slice A n c]:=by rw [hw1];exact Blk.new _ _ _
 clear hw1;with_reducible refine (HSD.out _).mono ?_
 rintro e w' ⟨rfl,rfl⟩;have c0:=hB1.cell 0;have c1:=hB1.cell 1;have c2:=hB1.cell 2;simp only [Yo,Yn,List.getElem?_cons_succ] at c0 c1 c2;have h1:=h.below hb1
 go_wp2_with fail
 go_loop [27] (fun q=>∃ k:Nat,k≤n∧q=.int .i64 k) (fun q=>n-(intOf q).toNat)
 case atStart=>exact ⟨0,Nat.zero_le _,rfl⟩
 case round =>
  obtain ⟨k,hk,rfl⟩:=hrel
  by_cases hlt:k<n
  · obtain ⟨b,oo,x,rfl,hx,hc⟩:=h1.at_ hlt
    have HW:=Zh (show ∀ V,Calls prog 95 #[.int .i64 x] V fun e w'=>e=.returned (.bool true)∧V=w' from fun V=>by
     have:=Qcl x V;rw [HOK.out x (Zm hx)] at this;exact this)
    have i1:(0:Int)≤(k:Int):=by omega
    have i2:(k:Int)<(n:Int):=by omega
    clear hx
    go_wp2_with fail
    with_reducible refine (HW.out _).mono ?_
    rintro e w' ⟨rfl,rfl⟩
    go_wp2_with fail
    go_round
    case rel=>exact ⟨k+1,by omega,by go_num⟩
    case measure=>simp [intOf];omega
  · go_wp2_with fail
    go_ret
    exact ⟨rfl,hb1⟩
theorem Blk.three {w:World}{g:Nat}{t:TypeId}{a b c:Value} (h:Blk w g t #[a,b,c]):w.cell? ⟨g,0,none⟩=some a∧w.cell? ⟨g,1,none⟩=some b∧w.cell? ⟨g,2,none⟩=some c :=
 ⟨Zq h,Zq h,Zq h⟩
def Qsl (f:Tri→Int)(l:List Tri)(n:Nat):List Int:=(List.range n).map (fun v:Nat=>((l.countP (fun a=>f a == (v:Int)):Nat):Int))
theorem Qjo (f:Tri→Int)(l:List Tri)(n:Nat):(Qsl f l n).length=n:=by simp [Qsl]
theorem Qde {f:Tri→Int}{l:List Tri}{n v:Nat}(h:v<n):(Qsl f l n)[v]?=some ((l.countP (fun a=>f a == (v:Int)):Nat):Int):=by
 unfold Qsl;rw [Yt,List.getElem?_range h]
 rfl
theorem Qih (f:Tri→Int)(n:Nat):Qcs (Qsl f [] n)=Qbv (.int .i64 0) n:=by
 rw [Qct]
 congr 1
 apply List.ext_getElem?
 intro i
 rcases Nat.lt_or_ge i n with h|h
 · rw [Qde h];simp [h]
 · rw [Yd (by rw [Qjo];exact h),Yd (by simpa using h)]
theorem Qhm {f:Tri→Int}{l:List Tri}{n v k:Nat}{a:Tri} (ha:l[k]?=some a) (hv:f a=(v:Int)) (h:v<n) :
 (Qsl f (l.take k) n).set v ((((l.take k).countP (fun a=>f a == (v:Int)):Nat):Int)+1)=Qsl f (l.take (k+1)) n:=by
 apply List.ext_getElem?
 intro i;rw [Yf (Zs ha).1,(Zs ha).2]
 rcases Nat.lt_or_ge i n with hi|hi
 · rw [Qde hi,List.countP_append]
   by_cases e:v=i
   · subst e
     rw [Yg (by rw [Qjo];exact h)];simp [hv]
   · rw [Yh e,Qde hi]
     have:(f a == (i:Int))=false:=by rw [hv];simp;omega
     simp [this]
 · rw [Yd (by rw [Yq,Qjo];exact hi),Yd (by rw [Qjo];exact hi)]
theorem Qky (f:Tri→Int)(l:List Tri)(k:Nat)(v:Int):(l.take k).countP (fun a=>f a == v)≤k:=Yx List.countP_le_length (List.length_take_le _ _)
set_option maxHeartbeats 4000000 in
set_option maxRecDepth 100000 in
theorem meet_ok (A B C:Option Addr)(n m k c d e:Nat)(N:Qak)(w:World)(h:Qbg w A B C n m k N)(hN:Qas N) :
 Calls prog 175 #[.agg #[.slice A n c,.slice B m d,.slice C k e]] w fun e w'=>e=.returned .nilIface∧Below w.heap.size w w':=by
 obtain ⟨hv,ha,ht⟩:=h;have HLV:=Zh hv.1;have HLA:=Zh ha.1;have HLT:=Zh ht.1;have hn:n≤4096:=by rw [←hv.1];exact hN.lv
 have hm:m≤16384:=by rw [←ha.1];exact hN.la
 have hmk:=Qdo n (by omega);have HN:=Zh hN;clear hN
 go_enter func175,ntmps175
 go_wp2_with fail
 (refine Qai ?_;intro w1 hw1)
 have hb1:Below w.heap.size w w1:=by rw [hw1];exact Qag
 have hN1:Blk w1 w.heap.size 177 #[.slice A n c,.slice B m d,.slice C k e]:=by rw [hw1];exact Qay
 have hI1:Blk w1 (w.heap.size+1) 3 (Qbv (.int .i64 0) n):=by rw [hw1];exact Qay
 have hO1:Blk w1 (w.heap.size+1+1) 3 (Qbv (.int .i64 0) n):=by rw [hw1];exact Qay
 clear hw1 hmk
 go_loopw [21] (fun q W=>∃ i:Nat,i≤m∧q=.int .i64 i∧Below w.heap.size w W∧Blk W w.heap.size 177 #[.slice A n c,.slice B m d,.slice C k e]∧Blk W (w.heap.size+1) 3 (Qcs (Qsl (·.2.1) (N.ar.take i) n))∧Blk W (w.heap.size+1+1) 3 (Qcs (Qsl (·.1) (N.ar.take i) n))) (fun q _=>m-(intOf q).toNat)
 case atStart=>exact ⟨0,Nat.zero_le _,rfl,hb1,hN1,by rw [List.take_zero,Qih];exact hI1,by rw [List.take_zero,Qih];exact hO1⟩
 case round =>
  clear hb1 hN1 hI1 hO1;obtain ⟨i,hi,rfl,hbl,hNN,hI,hO⟩:=hrel
  by_cases hlt:i<m
  · obtain ⟨b,o,x,y,z,rfl,hx,cx,cy,cz⟩:=(ha.below hbl).at_ hlt
    have hok:=HN.out.arcs _ (Zm hx);have f0:=hok.f0;have f1:=hok.f1;have g0:=hok.g0;have g1:=hok.g1;simp only at f0 f1 g0 g1;rw [HLV.out] at f1 g1;obtain ⟨u,rfl⟩:∃ u:Nat,x=u:=⟨x.toNat,by omega⟩;obtain ⟨v,rfl⟩:∃ v:Nat,y=v:=⟨y.toNat,by omega⟩;have hu:u<n:=by omega
    have hvn:v<n:=by omega
    have hx1:=Qhm (f:=(·.2.1)) (n:=n) (v:=v) hx rfl hvn;have hx2:=Qhm (f:=(·.1)) (n:=n) (v:=u) hx rfl hu;have c1:=hI.cellI (Qde (f:=(·.2.1)) (l:=N.ar.take i) hvn);have c2:=hO.cellI (Qde (f:=(·.1)) (l:=N.ar.take i) hu);have d1:=Qky (·.2.1) N.ar i v;have d2:=Qky (·.1) N.ar i u;have HX1:=Zh hx1;have HX2:=Zh hx2;clear hx1 hx2;generalize (N.ar.take i).countP (fun a=>a.2.1 == (v:Int))=p at *;generalize (N.ar.take i).countP (fun a=>a.1 == (u:Int))=q at *;have q1:=hI.frozen v;have q2:=hO.frozen u;have z1:=hI.lt;have z2:=hO.lt;have i1:(0:Int)≤(i:Int):=by omega
    have i2:(i:Int)<(m:Int):=by omega
    have hz:=hbl.size;obtain ⟨W2,hW2⟩:∃ W2,W2=((wr.setCell ⟨w.heap.size+1,v,none⟩ (.int .i64 ((p:Int)+1))).setCell ⟨w.heap.size+1+1,u,none⟩ (.int .i64 ((q:Int)+1))).alloc (.cells #[.int .i64 u,.int .i64 v,.int .i64 z] 186):=⟨_,rfl⟩;have HW2:=Zh hW2;have hb2:Below w.heap.size w W2:=by rw [hW2];exact Bel.alloc ((hbl.setCell (by simp only;omega) _).setCell (by simp only;omega) _)
    have hN2:Blk W2 w.heap.size 177 #[.slice A n c,.slice (some ⟨b,o,none⟩) m d,.slice C k e]:=by rw [hW2];exact Qng
    have hI2:Blk W2 (w.heap.size+1) 3 (Qcs (Qsl (·.2.1) (N.ar.take (i+1)) n)):=by
     rw [hW2];exact ((hI.setI HX1.out).far_ (by omega) _).alloc _
    have hO2:Blk W2 (w.heap.size+1+1) 3 (Qcs (Qsl (·.1) (N.ar.take (i+1)) n)):=by
     rw [hW2];exact (Blk.setI (hO.far_ (by omega) _) HX2.out).alloc _
    have HI2:=Zh hI2;have HO2:=Zh hO2;have HN2:=Zh hN2;clear hW2 hx hok hI hO hNN hI2 hO2 hN2
    go_wp2_with fail
    rw [←HW2.out]
    go_roundw
    case rel=>exact ⟨i+1,by omega,by go_num,hb2,HN2.out,HI2.out,HO2.out⟩
    case measure=>simp [intOf];omega
  · obtain rfl:i=m:=by omega
    rw [Ye (by rw [HLA.out];exact Zn _)] at hI hO;obtain ⟨w2,hw2⟩:∃ w2,w2=wr:=⟨_,rfl⟩;subst hw2;obtain ⟨n0,n1,n2⟩:=hNN.three
    go_wp2_with fail
    clear n0 n1 n2;have hv2:=hv.below hbl;have ht2:=ht.below hbl
    go_loopw [43] (fun q W=>∃ j:Nat,j≤n∧q=.int .i64 j∧Below w2.heap.size w2 W) (fun q _=>n-(intOf q).toNat)
    case atStart=>exact ⟨0,Nat.zero_le _,rfl,Zr _ _⟩
    case round =>
     obtain ⟨j,hj,rfl,hb2⟩:=hrel
     by_cases hlt2:j<n
     · obtain ⟨b,o,x,y,z,rfl,hx,cx,cy,cz⟩:=(hv2.below hb2).at_ hlt2
       have hok:=HN.out.verts _ (Zm hx);have t0:=hok.t0;have t1:=hok.t1;simp only at t0 t1;rw [HLT.out] at t1;obtain ⟨u,rfl⟩:∃ u:Nat,z=u:=⟨z.toNat,by omega⟩;have hu:u<k:=by omega
       obtain ⟨b',o',t,rfl,htt,k0,k1,A',n',c',k2,_,_,_⟩:=(ht2.below hb2).at_ hu;have hm1:=HN.out.meet j _ t hx (by simpa using htt);have hT:=HN.out.tabs t (Zm htt);have m1:(Qza N.ar j:Int)=t.ins:=hm1.1;have m2:(Qzm N.ar j:Int)=t.outs:=hm1.2;have b1:=hT.i16;have b2:=hT.o16;have b3:=hT.i0;have b4:=hT.o0;have hIr:=hI.below hb2 hI.lt;have hOr:=hO.below hb2 hO.lt;have hNr:=hNN.below hb2 hNN.lt;obtain ⟨_,_,n2⟩:=hNr.three;have c1:=hIr.cellI (Qde (f:=(·.2.1)) (l:=N.ar) hlt2);have c2:=hOr.cellI (Qde (f:=(·.1)) (l:=N.ar) hlt2);have HC:=Zh (show ∀ V,Below wr.heap.size wr V→V.cell? ⟨w.heap.size+1,j,none⟩=some (.int .i64 ((N.ar.countP (fun a=>a.2.1 == (j:Int)):Nat):Int))∧V.cell? ⟨w.heap.size+1+1,j,none⟩=some (.int .i64 ((N.ar.countP (fun a=>a.1 == (j:Int)):Nat):Int)) from fun V hV=>⟨Zc hV (Zn _) c1,Zc hV (Zn _) c2⟩)
       unfold Qza at m1;unfold Qzm at m2;generalize N.ar.countP (fun a=>a.2.1 == (j:Int))=p at *;generalize N.ar.countP (fun a=>a.1 == (j:Int))=q at *;obtain ⟨ti,to_,tc⟩:=t;simp only at m1 m2 b1 b2 b3 b4 k0 k1;subst m1;subst m2;have z0:=hNr.lt;have z1:=hIr.lt;have z2:=hOr.lt;have i1:(0:Int)≤(j:Int):=by omega
       have i2:(j:Int)<(n:Int):=by omega
       have i3:(0:Int)≤(u:Int):=by omega
       have i4:(u:Int)<(k:Int):=by omega
       have zb:b'<wr.heap.size:=Qah k0
       clear hx hok htt hm1 hT hNr
       go_wp2_with fail
       (refine Qai ?_;intro w3 hw3)
       have hb3:Below wr.heap.size wr w3:=by rw [hw3];exact Qag
       have hT3:Blk w3 (wr.heap.size+1) 193 #[.int .i64 p,.int .i64 q,.slice A' n' c']:=by rw [hw3];exact Qay
       obtain ⟨c1',c2'⟩:=HC.out w3 hb3;obtain ⟨t0',t1',t2'⟩:=hT3.three;clear hw3 c1 c2 cx cy cz k0 k1 k2 n2;have d1:(((p:Nat):Int) != ((p:Nat):Int))=false:=by simp
       have d2:(((q:Nat):Int) != ((q:Nat):Int))=false:=by simp
       go_wp2_with fail
       go_quiet (fail)
       go_wp2_with fail
       go_roundw
       case rel=>exact ⟨j+1,by omega,by go_num,Qbi (Zb hb2 hb3) _⟩
       case measure=>simp [intOf];omega
     · go_wp2_with fail
       go_ret
       exact ⟨rfl,Zb hbl hb2⟩
end Go.Proofs.YtdheeddnkdhfeaaGreatDoor
