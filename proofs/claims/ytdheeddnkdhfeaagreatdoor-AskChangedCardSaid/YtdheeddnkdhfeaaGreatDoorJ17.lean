/- Parts of the proof: RoG, RoO. -/
import Derived.Test.YtdheeddnkdhfeaaGreatDoorJ16
namespace Go.Proofs.YtdheeddnkdhfeaaGreatDoor
open Go.RowKit Go.Proofs.Tryz
attribute [local go_sem ↓] Go.wp_at_zero Go.wp_at_succ
set_option maxHeartbeats 1000000 in
theorem Qqx (Q:Option Addr)(L cq i:Nat) (ls:List (List Int)) (l:List Int) (w:World) (h:RdT w Q L ls) (hl:ls[i]?=some l) (hL:L≤1000000) (hb:∀ x∈l,0≤x∧x≤1000000) (hn:l.length≤1000000) :
 Calls prog 111 #[.agg #[.slice Q L cq],.int .i64 ((i:Int)+1)] w fun e w'=>e=.returned (.int .i64 (Qav l))∧Below w.heap.size w w':=by
 have hiL:i<L:=by rw [←h.1];exact (Zs hl).1
 obtain ⟨qb,qo,A1,n1,c1,l1,rfl,hl1,k0,k1,k2,k3⟩:=h.at_ hiL;rw [hl] at hl1
 cases hl1
 have hn1:n1≤1000000:=by rw [←k1.1];exact hn
 have HMO:=Zh (fun V (hV:Below w.heap.size w V)=>Qto A1 n1 c1 l V (k1.below hV) hn1 hb);have HK0:=Zh (show ∀ V,Below w.heap.size w V→V.cell? ⟨qb,qo+i,none⟩=some (.slice A1 n1 c1) from fun V hV=>Zc hV (Zn _) k0)
 have i4:(i:Int)+1-1=(i:Int):=by omega
 have i2:(i:Int)<(L:Int):=by omega
 have i3:(0:Int)≤(i:Int):=by omega
 have wl:IntKind.i64.wrap (i:Int)=(i:Int):=IntWalk.i64_in _ (by omega);clear h hl hb hn k0 k1 k2 k3
 go_enter func111,ntmps111
 go_wp2_with fail
 (refine Qab ?_;intro w1 hw1)
 have hb1:Below w.heap.size w w1:=by rw [hw1];exact Qag
 have hX1:Blk w1 w.heap.size 29 #[.slice (some ⟨qb,qo,none⟩) L cq]:=by rw [hw1];exact Blk.new _ _ _
 clear hw1;with_reducible refine (Qib _ L cq i w1 hiL).mono ?_
 rintro r w2 ⟨rfl,hb2⟩;have hX2:=hX1.below hb2 hX1.lt;have hb2':=Zb hb1 hb2;have x0:w2.cell? ⟨w.heap.size,0,none⟩=some (.slice (some ⟨qb,qo,none⟩) L cq):=Zq hX2;have x2:=HK0.out w2 hb2';clear hb1 hb2 hX1 hX2
 go_wp2_with fail
 with_reducible refine (HMO.out w2 hb2').mono ?_
 rintro r w3 ⟨rfl,rfl⟩
 go_wp2_with fail
 go_ret
 exact ⟨rfl,hb2'⟩
theorem Qzi:(Tryz.prog.info? 73).map (fun i=>(i.zero,i.size,i.bytes))=some (some (.agg #[.slice none 0 0,.slice none 0 0]),2,48):=by kernel_rfl
theorem Qvp:(Tryz.prog.info? 128).map (fun i=>(i.zero,i.size,i.bytes))=some (some (.slice none 0 0),1,24):=by kernel_rfl
theorem Qoi (k:Nat)(hk:k≤1000000)(W:World):(Instr.makeSlice 128 (.int .i64 (k:Int)) (.int .i64 (k:Int))).run prog W=.ok (.slice (some ⟨W.heap.size,0,none⟩) k k) (W.alloc (.cells (Qbv (.slice none 0 0) (k*2)) 73)):=by
 obtain ⟨i,hi,hz,hs,hbb⟩:=info_parts Qzi
 have hb':(i.bytes:Int)*(k:Int)≤281474976710656:=by
  rw [hbb];omega
 have hr:=run_make (P:=prog) W 128 73 i _ underlying128 hi hz .i64 .i64 k k (by omega) (by omega) hb' (by omega);simp only [Yl] at hr;rw [hs,show (Value.agg #[.slice none 0 0,.slice none 0 0]).cells=#[.slice none 0 0,.slice none 0 0] from rfl,Qzn] at hr
 exact hr
def GtL (W:World)(B:Nat)(A:Option Addr)(i c:Nat)(xs:List Value)(ar:List Tri) (ls:List (List Int)):Prop :=
 Own W B 128 1 A i c xs∧∀ (j:Nat) (l:List Int),j<i→ls[j]?=some l→∃ (A2:Option Addr) (c2:Nat),xs[j]?=some (.slice A2 (Qav l).toNat c2)∧RdC (msk W (fun b=>B≤b∧b<W.heap.size∧Qac A≠some b)) A2 (Qav l).toNat (gateRow ar l)∧(Qav l).toNat≤c2∧c2≤9223372036854775807
section
variable {W W':World} {B i c:Nat} {A:Option Addr} {xs:List Value} {ar:List Tri} {ls:List (List Int)}
theorem GtL.nil (W:World)(B:Nat)(ar:List Tri) (ls:List (List Int)):GtL W B none 0 0 [] ar ls:=⟨Own.nil _ _ _ _,fun _ _ h=>absurd h (Nat.not_lt_zero _)⟩
theorem GtL.below (h:GtL W B A i c xs ar ls)(hb:Below W.heap.size W W'):GtL W' B A i c xs ar ls :=
 ⟨h.1.below hb,fun j l hj hl=>by
  obtain ⟨A2,c2,h1,h2,h3⟩:=h.2 j l hj hl;exact ⟨A2,c2,h1,h2.le (Le.trans (Qbb.msk (Qbb.below hb)) (Qbe (fun b hb'=>⟨hb'.1,Yu hb'.2.1 hb.size,hb'.2.2⟩))),h3⟩⟩
theorem GtL.push {l:List Int}{R:Option Addr}{c' cr:Nat}{A':Option Addr}(h:GtL W B A i c xs ar ls) (hl:ls[i]?=some l)
 (hr:RdC (msk W (fun b=>B≤b∧b<W.heap.size∧Qac A≠some b)) R (Qav l).toNat (gateRow ar l)) (h1:(Qav l).toNat≤cr) (h2:cr≤9223372036854775807)
 (ho:Own W' B 128 1 A' (i+1) c' (xs ++[.slice R (Qav l).toNat cr])) (hg:W.grownBy W' (Qac A)) (hat:Qac A'=Qac A∨Qac A'=some W.heap.size):GtL W' B A' (i+1) c' (xs ++[.slice R (Qav l).toNat cr]) ar ls:=by
 have hxl:xs.length=i:=by rw [h.1.1,Nat.mul_one]
 have hle:Le (msk W (fun b=>B≤b∧b<W.heap.size∧Qac A≠some b)) (msk W' (fun b=>B≤b∧b<W'.heap.size∧Qac A'≠some b)) :=
  Le.trans (Qbb.msk (Qbb.grown hg (fun b hb=>hb.2.2))) (Qbe (fun b hb=>⟨hb.1,Yu hb.2.1 hg.size,fun e=>by
   rcases hat with e2|e2
   · exact hb.2.2 (e2▸e)
   · rw [e2] at e
     have:=Yv e;omega⟩))
 refine ⟨ho,fun j l' hj hl'=>?_⟩
 by_cases e:j=i
 · subst e
   rw [hl] at hl'
   cases hl'
   exact ⟨R,cr,by rw [←hxl,Yb (Zn _),Yy];rfl,hr.le hle,h1,h2⟩
 · obtain ⟨A2,c2,k1,k2,k3⟩:=h.2 j l' (by omega) hl'
   exact ⟨A2,c2,by rw [Yc (by omega)];exact k1,k2.le hle,k3⟩
theorem GtL.rdG {G:Nat→Prop}(h:GtL W B A i c xs ar ls)(hl:ls.length=i)(hG:∀ b,B≤b→b<W.heap.size→G b):RdG (msk W G) A i (gatesOf ar ls):=by
 refine ⟨by simp [gatesOf,hl],fun j row hr=>?_⟩;unfold gatesOf at hr;rw [Yt] at hr
 cases e:ls[j]? with
 | none=>rw [e] at hr;cases hr
 | some l =>
  rw [e] at hr
  cases hr
  obtain ⟨A2,c2,k1,k2,k3⟩:=h.2 j l (by rw [←hl];exact (Zs e).1) e;obtain ⟨b,o,e2,k4⟩:=h.1.rds.2 _ _ k1;have hb:=h.1.lt b (by rw [e2];rfl);exact ⟨b,o,A2,_,c2,e2,Qal.2 ⟨hG b hb.1 hb.2,k4⟩,k2.le (Qbe (fun b hb=>hG b hb.1 hb.2.1)),k3⟩
end
set_option maxHeartbeats 4000000 in
set_option maxRecDepth 20000 in
theorem Qsb (A B C Q:Option Addr)(n m k c d e L cq:Nat)(N:Qak) (ls:List (List Int)) (w:World) (h:Qbg w A B C n m k N) (hok:Qas N) (hq:RdT w Q L ls) (hP:Qbc N.vs.length ls) :
 Calls prog 55 #[.agg #[.slice A n c,.slice B m d,.slice C k e],.agg #[.slice Q L cq]] w fun r w'=>∃ A' c',r=.returned (.slice A' L c')∧RdG (msk w' (fun b=>w.heap.size≤b∧b<w'.heap.size)) A' L (gatesOf N.ar ls)∧Below w.heap.size w w':=by
 have HH:=Zh h;have HT:=Zh hq;have HP:=Zh hP;have HOK:=Zh hok;have HVN:=Zh h.1.1;have hn4:n≤4096:=by rw [←h.1.1];exact hok.lv
 have hm:N.ar.length≤16384:=hok.la;have HMM:=Zh hm;have HLM:=Zh h.2.1.1;have l6:L≤6:=by rw [←hq.1];exact hP.l6
 clear h hok hq hP hm
 go_enter func55,ntmps55
 go_wp2_with fail
 (refine Qai ?_;intro w1 hw1)
 have hb1:Below w.heap.size w w1:=by rw [hw1];exact Qag
 have hX:Blk w1 w.heap.size 26 #[.slice A n c,.slice B m d,.slice C k e]:=by
  rw [hw1];refine Blk.alloc ?_ _;exact Blk.new _ _ _
 have hY:Blk w1 (w.heap.size+1) 29 #[.slice Q L cq]:=by
  rw [hw1];refine Blk.new' _ _ _ ?_;simp
 clear hw1
 go_loopw [5,6] (fun z q W=>∃ (i:Nat) (A':Option Addr) (c':Nat) (xs:List Value),i≤L∧q=.int .i64 ((i:Int)+1)∧z=.slice A' i c'∧GtL W w1.heap.size A' i c' xs N.ar ls∧Below w1.heap.size w1 W) (fun _ q _=>L+1-(intOf q).toNat)
 case atStart=>exact ⟨0,none,0,[],Nat.zero_le _,rfl,rfl,GtL.nil _ _ _ _,Zr _ _⟩
 case round =>
  obtain ⟨i,A',c',xs,hi,rfl,rfl,hGt,hbl⟩:=hrel;have HGT:=Zh hGt;have hbw:=Zb hb1 hbl;have hXr:=hX.below hbl hX.lt;have hYr:=hY.below hbl hY.lt;have x0:wr.cell? ⟨w.heap.size,0,none⟩=some (.slice A n c):=Zq hXr;have x1:wr.cell? ⟨w.heap.size,1,none⟩=some (.slice B m d):=Zq hXr;have x2:wr.cell? ⟨w.heap.size,2,none⟩=some (.slice C k e):=Zq hXr;have y0:wr.cell? ⟨w.heap.size+1,0,none⟩=some (.slice Q L cq):=Zq hYr;have yl:=hYr.lt;clear hGt
  by_cases hlt:i<L
  rotate_left
  · obtain rfl:i=L:=by omega
    have i1:¬((i:Int)+1≤(i:Int)):=by omega
    go_wp2_with fail
    go_ret
    exact ⟨A',⟨c',rfl⟩,HGT.out.rdG HT.out.1 (fun b h1 h2=>⟨by have:=hb1.size;omega,h2⟩),hbw⟩
  obtain ⟨qb,qo,LA,ln,lc,l,rfl,hl,hc,hr,q1,q2⟩:=HT.out.at_ hlt;have hlo:=HP.out.lvl l (Zm hl);obtain rfl:n=ln:=by rw [←hr.1,hlo.len];exact HVN.out.symm
  have hM0:=Qch l;have hM1:=Qcm (l:=l) (n:=(n:Int)) (fun x hx=>by have:=hlo.hi x hx;have:=HVN.out;omega) (by omega);obtain ⟨M,hM⟩:∃ M:Nat,Qav l=M:=⟨(Qav l).toNat,by omega⟩;have HCN:=Zh (show ∀ V,Below w.heap.size w V→Calls prog 111 #[.agg #[.slice (some ⟨qb,qo,none⟩) L cq],.int .i64 ((i:Int)+1)] V fun e w'=>e=.returned (.int .i64 M)∧Below V.heap.size V w' from fun V hV=>hM▸Qqx _ L cq i ls l V (HT.out.below hV) hl (by omega) (fun x hx=>⟨hlo.lo x hx,by have:=hlo.hi x hx;have:=HVN.out;omega⟩) (by have:=hlo.len;have:=HVN.out;omega))
  have HCR:=Zh (fun V (hV:Below w.heap.size w V)=>Qhj A B C (some ⟨qb,qo,none⟩) n m k c d e L cq i N ls l V (HH.out.below hV) HOK.out (HT.out.below hV) hl hlo.len (by omega));have HLO:=Zh hlo;have HLL:=Zh hl;have HR:=Zh hr;have HC:=Zh hc;have HMM2:=Zh hM;rw [hM] at hM0 hM1;have hM3:M≤1000000:=by omega
  have hmkc:=Qoi M hM3;have i1:(i:Int)+1≤(L:Int):=by omega
  clear hr hlo hl hc q1 q2 hM
  go_wp2_with fail
  with_reducible refine (HCN.out wr hbw).mono ?_
  rintro r w2' ⟨rfl,hb2⟩;obtain ⟨w2,hw2⟩:∃ w2,w2=w2':=⟨_,rfl⟩;subst hw2;have hbr2:=hb2;have hbl2:=Zb hbl hb2;have hbw2:=Zb hbw hb2;have HGT2:=Zh (HGT.out.below hb2);have hX2:=hXr.below hb2 hXr.lt;have hY2:=hYr.below hb2 hYr.lt;clear x0 x1 x2 y0 yl hb2 hXr hYr hbl hbw HGT;have x0:w2.cell? ⟨w.heap.size,0,none⟩=some (.slice A n c):=Zq hX2;have x1:w2.cell? ⟨w.heap.size,1,none⟩=some (.slice B m d):=Zq hX2;have x2:w2.cell? ⟨w.heap.size,2,none⟩=some (.slice C k e):=Zq hX2;have y0:w2.cell? ⟨w.heap.size+1,0,none⟩=some (.slice (some ⟨qb,qo,none⟩) L cq):=Zq hY2;have yl:=hY2.lt;have hz12:=hbl2.size;have hXl:=hX2.lt;have x0b:=fun o=>Zc (show Below w2.heap.size w2 (w2.alloc o) from Qag) (Zn _) x0
  have x1b:=fun o=>Zc (show Below w2.heap.size w2 (w2.alloc o) from Qag) (Zn _) x1
  have x2b:=fun o=>Zc (show Below w2.heap.size w2 (w2.alloc o) from Qag) (Zn _) x2
  have y0b:=fun o=>Zc (show Below w2.heap.size w2 (w2.alloc o) from Qag) (Zn _) y0
  go_wp2_with fail
  (refine Qab ?_;intro w5 hw5)
  have hb45:Below w2.heap.size w2 w5:=by rw [hw5];exact Qag
  have hC5:Blk w5 w2.heap.size 73 (Qbv (.slice none 0 0) (M*2)):=by rw [hw5];exact Blk.new _ _ _
  clear hw5 x0 x1 x2 y0 x0b x1b x2b y0b hmkc;have hbw5:=Zb hbw2 hb45;have hz45:w2.heap.size+1≤w5.heap.size:=by have:=hC5.lt;omega
  with_reducible refine (HCR.out w5 hbw5).mono ?_
  rintro r w6 ⟨AX,KX,cX,rfl,hX6,hXlo,hb6⟩;have HXlo:=Zh hXlo;clear hXlo;have hKX:KX=(Qax N.ar l).length:=hX6.1.symm;subst hKX;have hb26:=Zb hb45 hb6;have hbw6:=Zb hbw5 hb6
  have hI6:IkG 73 w6 w6.heap.size w2.heap.size (M*2) (Qdv (toC N.ar l) (frC N.ar l) ((Qax N.ar l).take 0) M):=by
   rw [List.take_zero,Qos];exact IkG.start (by have:=hb6.size;omega) (hC5.below hb6 hC5.lt)
  have HXL:=Zh (show ∀ x∈Qax N.ar l,∃ (a:Nat) (y:Tri),x=(a:Int)∧N.ar[a]?=some y from fun x hx=>by
   obtain ⟨a,y,e1,e2,_⟩:=Qtn.1 hx;exact ⟨a,y,e1,e2⟩)
  have hXm:(Qax N.ar l).length≤16384:=Yx (Qfp _ _) HMM.out;have hz56:=hb6.size;have HX6:=Zh hX6;clear hC5 hb45 hb6 hbw5;generalize hKK:(Qax N.ar l).length=K at *;have HKK:=Zh hKK;clear hKK
  go_wp2_with fail
  go_loopw [9] (fun q W=>w6.heap.size≤W.heap.size∧Below w2.heap.size w2 W∧∃ j:Nat,j≤K∧q=.int .i64 j∧RdI W AX K (Qax N.ar l)∧IkG 73 W w6.heap.size w2.heap.size (M*2) (Qdv (toC N.ar l) (frC N.ar l) ((Qax N.ar l).take j) M)) (fun q _=>K-(intOf q).toNat)
  case atStart=>exact ⟨Zn _,hb26,0,Nat.zero_le _,rfl,hX6,hI6⟩
  case round =>
   clear hb26 hX6 hI6;obtain ⟨hsz6,hbl2w,j,hj,rfl,hXj,hI⟩:=hrel
   by_cases hlt2:j<K
   rotate_left
   · obtain rfl:K=j:=by omega
     rw [Ye (by rw [HKK.out];exact Zn _)] at hI;have HG9:=Zh (HGT2.out.below hbl2w)
     have HRC:=Zh (show RdC (msk wr (fun b=>w1.heap.size≤b∧b<wr.heap.size∧Qac A'≠some b)) (some ⟨w2.heap.size,0,none⟩) (Qav l).toNat (gateRow N.ar l) from by
      have hI':IkG 73 wr w6.heap.size w2.heap.size ((Qav l).toNat*2) (Qdv (toC N.ar l) (frC N.ar l) (Qax N.ar l) (Qav l).toNat):=by
       rw [HMM2.out,Yl];exact hI
      exact hI'.rdCM ⟨by omega,hI.lt,fun e=>by have:=(HGT2.out.1.lt _ e).2;omega⟩ (fun b h1 h2=>⟨by omega,h2,fun e=>by have:=(HGT2.out.1.lt _ e).2;omega⟩))
     have HMN:=Zh (show (Qav l).toNat=M by rw [HMM2.out];simp)
     obtain ⟨W2,hW2⟩:∃ W2,W2=wr.alloc (.cells #[.slice (some ⟨w2.heap.size,0,none⟩) M M] 128):=⟨_,rfl⟩;have hbW:Below wr.heap.size wr W2:=by rw [hW2];exact Qag
     have HG10:=Zh (HG9.out.below hbW);have hown:=HG10.out.1;have hrd:Rds W2 1 (some ⟨wr.heap.size,0,none⟩) 1 [.slice (some ⟨w2.heap.size,0,none⟩) M M]:=by rw [hW2];exact (Blk.new wr 128 #[.slice (some ⟨w2.heap.size,0,none⟩) M M]).rds rfl
     have hsz:w1.heap.size≤W2.heap.size:=by have:=hbW.size;have:=hbl2w.size;omega
     have hbw9:=Zb (Zb hbl2 hbl2w) hbW;have HW2:=Zh hW2;have j2:¬((K:Int)<(K:Int)):=by omega
     clear hW2 hI hXj
     go_wp2_with (at_builtin;rw [←HW2.out];with_reducible refine Qan rfl (.tmp 97) (.tmp 99) 54 rfl 128 _ 1 24 Qvp underlying54 rfl (by omega) rfl rfl hown hrd (Qck _ _ _) (by omega) (by omega) hsz ?_)
     intro A3 c3 w8 ho8 hg8 hat8;have HB8:=Zh (Zo hbw9 hg8 hown hsz);have HG11:=Zh (show GtL w8 w1.heap.size A3 (i+1) c3 (xs ++[.slice (some ⟨w2.heap.size,0,none⟩) (Qav l).toNat M]) N.ar ls from HG10.out.push HLL.out (HRC.out.le (Le.trans (Qbb.msk (Qbb.below hbW)) (Qbe (fun b hb'=>⟨hb'.1,Yu hb'.2.1 hbW.size,hb'.2.2⟩)))) (by rw [HMN.out];exact Zn _) (by omega) (by rw [HMN.out];exact ho8) hg8 hat8)
     clear hown hrd hsz hbw9 ho8 hg8 hat8 hbW
     go_wp2_with fail
     go_roundw
     case rel=>exact ⟨i+1,A3,c3,_,by omega,by go_num,rfl,HG11.out,HB8.out⟩
     case measure=>simp [intOf];omega
   obtain ⟨xb,xo,x,rfl,hx,hc6⟩:=HX6.out.at_ hlt2;obtain ⟨a,⟨u,v,z⟩,rfl,hay⟩:=HXL.out x (Zm hx);have hxb6:=Qah hc6;simp only at hxb6;have hu0:=HOK.out.arcs _ (Zm hay);have f0:=hu0.f0;have f1:=hu0.f1;have g0:=hu0.g0;have g1:=hu0.g1;simp only at f0 f1 g0 g1;rw [HVN.out] at f1 g1;obtain ⟨u,rfl⟩:∃ u':Nat,u=u':=⟨u.toNat,by omega⟩;obtain ⟨v,rfl⟩:∃ v':Nat,v=v':=⟨v.toNat,by omega⟩;obtain ⟨p,hp1,hp2,hp3⟩:=Qdp HLO.out (v:=v) (by rw [HVN.out];omega);obtain ⟨q,hq1,hq2,hq3⟩:=Qdp HLO.out (v:=u) (by rw [HVN.out];omega);rw [HMM2.out,Yl] at hp2 hq2;have hbww:=Zb hbw2 hbl2w;obtain ⟨rb,ro,_,rfl,e1,cp⟩:=(HR.out.below hbww).at_ (i:=v) (by omega);rw [hp3] at e1
   cases e1
   obtain ⟨rb',ro',_,e2,e1,cq'⟩:=(HR.out.below hbww).at_ (i:=u) (by omega);rw [hq3] at e1
   cases e1
   cases e2
   have hrow:=Zc hbww (Zn _) HC.out;obtain ⟨ab,ao,rfl,y1,y2,y3⟩:=(HH.out.below hbww).2.1.2 a _ hay;simp only at y1 y2 y3;have hXr:=hX2.below hbl2w hX2.lt;have hYr:=hY2.below hbl2w hY2.lt;have ham:a<m:=by rw [←HLM.out];exact (Zs hay).1
   obtain ⟨_,_,_,eX,hx',hcx⟩:=hXj.at_ hlt2
   cases eX
   rw [hx] at hx'
   cases hx'
   have HNX:=Zh (show Qdv (toC N.ar l) (frC N.ar l) ((Qax N.ar l).take (j+1)) M=((Qdv (toC N.ar l) (frC N.ar l) ((Qax N.ar l).take j) M).set (p*2) (((Qax N.ar l).take j).filter (fun a=>toC N.ar l a == (p:Int)) ++[(a:Int)])).set (q*2+1) (((Qax N.ar l).take j).filter (fun a=>frC N.ar l a == (q:Int)) ++[(a:Int)]) by
    rw [Qml ((Qnr hay).trans hp1) ((Qoa hay).trans hq1) hp2 hq2,Yf (Zs hx).1,(Zs hx).2])
   have HP1:=Zh (Qjp (t:=toC N.ar l) (f:=frC N.ar l) (X:=(Qax N.ar l).take j) hp2);have HQ1:=Zh (Qif (t:=toC N.ar l) (f:=frC N.ar l) (X:=(Qax N.ar l).take j) hq2);have hfl1:(((Qax N.ar l).take j).filter (fun a=>toC N.ar l a == (p:Int))).length≤j:=Yx (List.length_filter_le _ _) (List.length_take_le _ _);have hfl2:(((Qax N.ar l).take j).filter (fun a=>frC N.ar l a == (q:Int))).length≤j:=Yx (List.length_filter_le _ _) (List.length_take_le _ _);have k1:(0:Int)≤(j:Int):=by omega
   have k2:(j:Int)<(K:Int):=by omega
   have k3:(0:Int)≤(v:Int):=by omega
   have k4:(v:Int)<(n:Int):=by omega
   have k5:(0:Int)≤(u:Int):=by omega
   have k6:(u:Int)<(n:Int):=by omega
   have k7:(0:Int)≤(p:Int):=by omega
   have k8:(p:Int)<(M:Int):=by omega
   have k9:(0:Int)≤(q:Int):=by omega
   have k10:(q:Int)<(M:Int):=by omega
   have k11:(0:Int)≤(a:Int):=by omega
   have k12:(a:Int)<(m:Int):=by omega
   have k13:(0:Int)≤(i:Int):=by omega
   have k14:(i:Int)<(L:Int):=by omega
   have k15:(i:Int)+1-1=(i:Int):=by omega
   have wl:IntKind.i64.wrap (i:Int)=(i:Int):=IntWalk.i64_in _ (by omega)
   have HSX:=Zh (show ∀ V,Below wr.heap.size wr V→V.cell? ⟨w.heap.size,1,none⟩=some (.slice (some ⟨ab,ao,none⟩) m d)∧V.cell? ⟨w.heap.size+1,0,none⟩=some (.slice (some ⟨qb,qo,none⟩) L cq)∧V.cell? ⟨qb,qo+i,none⟩=some (.slice (some ⟨rb,ro,none⟩) n lc)∧V.cell? ⟨ab,ao+a*3,none⟩=some (.int .i64 u)∧V.cell? ⟨ab,ao+a*3+1,none⟩=some (.int .i64 v)∧V.cell? ⟨rb,ro+v,none⟩=some (.int .i64 p)∧V.cell? ⟨rb,ro+u,none⟩=some (.int .i64 q)∧V.cell? ⟨xb,xo+j,none⟩=some (.int .i64 a) from
    fun V hV=>⟨by rw [(hXr.below hV hXr.lt).cell];rfl,by rw [(hYr.below hV hYr.lt).cell];rfl,Zc hV (Zn _) hrow,Zc hV (Zn _) y1,Zc hV (Zn _) y2,Zc hV (Zn _) cp,Zc hV (Zn _) cq',Zc hV (Zn _) hcx⟩)
   have HCX:=Zh hx;have HXB:=Zh (show w2.heap.size<xb∧xb<w6.heap.size from ⟨by have:=HXlo.out xb rfl;omega,hxb6⟩)
   have HIV0:=Zh hI;have HXV0:=Zh hXj;have HWV0:=Zh hbl2w;clear hx hay hu0 hp1 hq1 hp3 hq3 cp cq' hrow y1 y2 y3 hXr hYr hcx hI hXj hbl2w hbww hc6 hxb6;generalize ((Qax N.ar l).take j).filter (fun a=>toC N.ar l a == (p:Int))=lp at *;generalize ((Qax N.ar l).take j).filter (fun a=>frC N.ar l a == (q:Int))=lq at *
   go_wp2_with fail
   refine wp_region_held_drew (S:=fun V=>Below wr.heap.size wr V) (by kernel_rfl) (Zr _ _).drew (fun _=>?_);refine tz 0 33 ?_;refine tz 1 34 ?_;refine tz 2 35 ?_;refine tz 3 36 ?_;refine tz 4 37 ?_;refine tz 5 38 ?_;refine tz 6 39 ?_;refine tz 7 40 ?_;refine tz 8 41 ?_;refine tz 9 42 ?_;refine tz 10 43 ?_;refine tz 11 44 ?_;refine tz 12 45 ?_;refine tz 13 46 ?_;refine tz 14 47 ?_;refine tz 15 48 ?_;refine tz 16 49 ?_;refine tz 17 10 ?_;refine Zd ?_
   go_wp2_with fail
   refine wp_region_held_drew (S:=fun V=>Below wr.heap.size wr V) (by kernel_rfl) (Zr _ _).drew.drew (fun _=>?_);refine tz 0 50 ?_;refine tz 1 51 ?_;refine tz 2 52 ?_;refine tz 3 53 ?_;refine tz 4 54 ?_;refine tz 5 55 ?_;refine tz 6 56 ?_;refine tz 7 57 ?_;refine tz 8 58 ?_;refine tz 9 59 ?_;refine tz 10 60 ?_;refine tz 11 61 ?_;refine tz 12 62 ?_;refine tz 13 63 ?_;refine tz 14 64 ?_;refine tz 15 65 ?_;refine tz 16 66 ?_;refine tz 17 11 ?_;refine Zd ?_;clear HSX;obtain ⟨V1,hV1⟩:∃ V1,V1=wr.drew.drew:=⟨_,rfl⟩;rw [←hV1];have hbV:Below wr.heap.size wr V1:=by rw [hV1];exact (Zr _ _).drew.drew
   have HIV:=Zh (HIV0.out.below hbV);have HXV:=Zh (HXV0.out.below hbV);have HWV:=Zh (Zb HWV0.out hbV);have HZV:=Zh (Yx hsz6 hbV.size);have HLX:=Zh HP1.out;clear hV1 hbV HIV0 HXV0 HWV0 hsz6
   go_wp2_with fail
   obtain ⟨Ac,cc,lc,ec,cwc,ffc,hoc⟩:=HIV.out.row (u:=p*2) (by omega);rw [HLX.out] at ec
   cases ec
   have hXt:=HXV.out.at_ hlt2;obtain ⟨xb',xo',x',ee,hx',hcx⟩:=hXt
   cases ee
   rw [HCX.out] at hx'
   cases hx'
   have hxA:∀ g,Qac Ac=some g→g≠xb∧g≠w2.heap.size:=fun g e=>by have h1:=(hoc.lt g e).1;have:=HXB.out;omega
   have hoz:=HWV.out.size;refine Qbm 15 (S:=fun V=>V.cell? ⟨w2.heap.size,p*2,none⟩=some (.slice Ac lp.length cc)∧V.cell? ⟨xb,xo+j,none⟩=some (.int .i64 (a:Int))) (by kernel_rfl) ⟨cwc,hcx⟩ (fun _=>?_);refine tkF 0 67 (h:=⟨_,tv,?_⟩);simp only [pE,List.set];refine tkF 1 68 (h:=⟨_,tv,?_⟩);simp only [pE,List.set];refine tkF 2 69 (h:=⟨_,tv,?_⟩);simp only [pE,List.set];refine tkF 3 70 (h:=⟨_,tv,?_⟩);simp only [pE,List.set];refine tkF 4 71 (h:=⟨_,tv,?_⟩);simp only [pE,List.set];refine tkF 5 72 (h:=⟨_,tv,?_⟩);simp only [pE,List.set];refine tkK 6 73 (h:=⟨_,tv,?_⟩);simp only [pE,List.set];refine tkF 7 74 (h:=⟨_,tv,?_⟩);simp only [pE,List.set];refine tkF 8 75 (h:=⟨_,tv,?_⟩);simp only [pE,List.set];refine tkF 9 76 (h:=⟨_,tv,?_⟩);simp only [pE,List.set];refine tkK 10 77 (h:=⟨_,tv,?_⟩);simp only [pE,List.set];obtain ⟨w9,hw9⟩:∃ w9,w9=(V1.alloc (.cells #[.int .i64 (a:Int)] 3)).drew:=⟨_,rfl⟩;have hb9:Below V1.heap.size V1 w9:=by rw [hw9];exact ((Zr _ _).alloc (Zn _) _).drew
   have hI9:=HIV.out.below hb9;have hX9:=HXV.out.below hb9;have hrd9:Rds w9 1 (some ⟨V1.heap.size,0,none⟩) 1 (Qaf [(a:Int)]):=by rw [hw9];exact ((Blk.new V1 3 (Qcs [(a:Int)])).drew).rds rfl
   have hro9:=hoc.below hb9;have hrc9:=Zc hb9 (Zn _) cwc;have hcx9:=Zc hb9 (Zn _) hcx;have hwb9:=Zb HWV.out hb9;have hsz9:w6.heap.size≤w9.heap.size:=Yx HZV.out hb9.size;refine Qbl (i:=11) (by kernel_rfl) (by rfl) rfl (fun K hK=>?_);go_simp;rw [←hw9];refine hK.out _ _ ⟨hrc9,hcx9⟩ (fun _=>?_);clear hK K hw9;refine Qbl (i:=12) (by kernel_rfl) (by rfl) rfl (fun K hK=>?_);with_reducible refine Qaj (some 79) rfl rfl (.tmp 73) (.tmp 78) 61 rfl 3 _ 1 8 Qbs underlying61 rfl (by omega) rfl rfl hro9 hrd9 (Qao _) (by omega) (by omega) hsz9 ?_
   intro RA' rc' w10 ho10 hg10 hat10
   have hcg:w10.cell? ⟨w2.heap.size,p*2,none⟩=some (.slice Ac lp.length cc):=by
    exact Kcp
   have hcy:w10.cell? ⟨xb,xo+j,none⟩=some (.int .i64 (a:Int)):=by
    exact Kcw
   obtain ⟨xf,hfv,hff⟩:=hI9.cellG (u:=p*2) (by omega) hg10 (hro9.ne (by omega));refine hK.out _ _ ⟨hcg,hcy⟩ (fun _=>?_);clear hK K;simp only [Act.put,Yi,Yj,Yk];have hIF:=hI9.push HLX.out hrc9 ho10 hg10 hat10;have hbF:Below w2.heap.size w2 (w10.setCell ⟨w2.heap.size,p*2,none⟩ (.slice RA' (lp.length+1) rc')):=Zi (hwb9.grown hg10 (by omega) (fun g e=>by have:=(hro9.lt g e).1;omega)) (by omega)
   have hXF:RdI (w10.setCell ⟨w2.heap.size,p*2,none⟩ (.slice RA' (lp.length+1) rc')) (some ⟨xb,xo,none⟩) K (Qax N.ar l) :=
    (RdK.grownN hX9 hg10 (fun g hg e=>(hxA g e).1 (by cases hg;rfl))).far _ (fun e=>by have:=HXB.out;have e2:xb=w2.heap.size:=Yv e;omega)
   have hzF:w6.heap.size≤(w10.setCell ⟨w2.heap.size,p*2,none⟩ (.slice RA' (lp.length+1) rc')).heap.size:=by have:=hg10.size;simp [World.setCell];omega
   refine tkF 13 80 (h:=⟨_,tv,?_⟩);simp only [pE,List.set];refine tkF 14 81 (h:=⟨_,tv,?_⟩);simp only [pE,List.set];refine Qcc (k:=15) (by kernel_rfl) rfl (fun K hK=>?_);go_simp;refine hK.out _ _ ?_;clear hK K;refine Qbw (by kernel_rfl) ?_ _;obtain ⟨V2,hVO⟩:∃ V2,V2=w10.setCell ⟨w2.heap.size,p*2,none⟩ (.slice RA' (lp.length+1) rc'):=⟨_,rfl⟩;rw [←hVO] at hIF hbF hXF hzF ⊢;clear hVO hcg hcy hfv hff ho10 hg10 hat10 hI9 hX9 hrd9 hro9 hrc9 hcx9 hwb9 hsz9 hb9 hxA hoz cwc ffc hoc hcx HIV HXV HZV HWV HLX;have HIV:=Zh hIF;have HXV:=Zh hXF;have HZV:=Zh hzF;have HWV:=Zh hbF;clear hIF hbF hXF hzF;have HLX:=Zh (show ((Qdv (toC N.ar l) (frC N.ar l) ((Qax N.ar l).take j) M).set (p*2) (lp ++[(a:Int)]))[q*2+1]?=some lq by rw [Yh (by omega)];exact HQ1.out)
   go_wp2_with fail
   obtain ⟨Ac,cc,lc,ec,cwc,ffc,hoc⟩:=HIV.out.row (u:=q*2+1) (by omega);rw [HLX.out] at ec
   cases ec
   have hXt:=HXV.out.at_ hlt2;obtain ⟨xb',xo',x',ee,hx',hcx⟩:=hXt
   cases ee
   rw [HCX.out] at hx'
   cases hx'
   have hxA:∀ g,Qac Ac=some g→g≠xb∧g≠w2.heap.size:=fun g e=>by have h1:=(hoc.lt g e).1;have:=HXB.out;omega
   have hoz:=HWV.out.size;refine Qbm 15 (S:=fun V=>V.cell? ⟨w2.heap.size,q*2+1,none⟩=some (.slice Ac lq.length cc)∧V.cell? ⟨xb,xo+j,none⟩=some (.int .i64 (a:Int))) (by kernel_rfl) ⟨cwc,hcx⟩ (fun _=>?_);refine tkF 0 82 (h:=⟨_,tv,?_⟩);simp only [pE,List.set];refine tkF 1 83 (h:=⟨_,tv,?_⟩);simp only [pE,List.set];refine tkF 2 84 (h:=⟨_,tv,?_⟩);simp only [pE,List.set];refine tkF 3 85 (h:=⟨_,tv,?_⟩);simp only [pE,List.set];refine tkF 4 86 (h:=⟨_,tv,?_⟩);simp only [pE,List.set];refine tkF 5 87 (h:=⟨_,tv,?_⟩);simp only [pE,List.set];refine tkK 6 88 (h:=⟨_,tv,?_⟩);simp only [pE,List.set];refine tkF 7 89 (h:=⟨_,tv,?_⟩);simp only [pE,List.set];refine tkF 8 90 (h:=⟨_,tv,?_⟩);simp only [pE,List.set];refine tkF 9 91 (h:=⟨_,tv,?_⟩);simp only [pE,List.set];refine tkK 10 92 (h:=⟨_,tv,?_⟩);simp only [pE,List.set];obtain ⟨w9,hw9⟩:∃ w9,w9=(V2.alloc (.cells #[.int .i64 (a:Int)] 3)).drew:=⟨_,rfl⟩;have hb9:Below V2.heap.size V2 w9:=by rw [hw9];exact ((Zr _ _).alloc (Zn _) _).drew
   have hI9:=HIV.out.below hb9;have hX9:=HXV.out.below hb9;have hrd9:Rds w9 1 (some ⟨V2.heap.size,0,none⟩) 1 (Qaf [(a:Int)]):=by rw [hw9];exact ((Blk.new V2 3 (Qcs [(a:Int)])).drew).rds rfl
   have hro9:=hoc.below hb9;have hrc9:=Zc hb9 (Zn _) cwc;have hcx9:=Zc hb9 (Zn _) hcx;have hwb9:=Zb HWV.out hb9;have hsz9:w6.heap.size≤w9.heap.size:=Yx HZV.out hb9.size;refine Qbl (i:=11) (by kernel_rfl) (by rfl) rfl (fun K hK=>?_);go_simp;rw [←hw9];refine hK.out _ _ ⟨hrc9,hcx9⟩ (fun _=>?_);clear hK K hw9;refine Qbl (i:=12) (by kernel_rfl) (by rfl) rfl (fun K hK=>?_);with_reducible refine Qaj (some 94) rfl rfl (.tmp 88) (.tmp 93) 61 rfl 3 _ 1 8 Qbs underlying61 rfl (by omega) rfl rfl hro9 hrd9 (Qao _) (by omega) (by omega) hsz9 ?_
   intro RA' rc' w10 ho10 hg10 hat10
   have hcg:w10.cell? ⟨w2.heap.size,q*2+1,none⟩=some (.slice Ac lq.length cc):=by
    exact Kcp
   have hcy:w10.cell? ⟨xb,xo+j,none⟩=some (.int .i64 (a:Int)):=by
    exact Kcw
   obtain ⟨xf,hfv,hff⟩:=hI9.cellG (u:=q*2+1) (by omega) hg10 (hro9.ne (by omega));refine hK.out _ _ ⟨hcg,hcy⟩ (fun _=>?_);clear hK K;simp only [Act.put,Yi,Yj,Yk];have hIF:=hI9.push HLX.out hrc9 ho10 hg10 hat10;have hbF:Below w2.heap.size w2 (w10.setCell ⟨w2.heap.size,q*2+1,none⟩ (.slice RA' (lq.length+1) rc')):=Zi (hwb9.grown hg10 (by omega) (fun g e=>by have:=(hro9.lt g e).1;omega)) (by omega)
   have hXF:RdI (w10.setCell ⟨w2.heap.size,q*2+1,none⟩ (.slice RA' (lq.length+1) rc')) (some ⟨xb,xo,none⟩) K (Qax N.ar l) :=
    (RdK.grownN hX9 hg10 (fun g hg e=>(hxA g e).1 (by cases hg;rfl))).far _ (fun e=>by have:=HXB.out;have e2:xb=w2.heap.size:=Yv e;omega)
   have hzF:w6.heap.size≤(w10.setCell ⟨w2.heap.size,q*2+1,none⟩ (.slice RA' (lq.length+1) rc')).heap.size:=by have:=hg10.size;simp [World.setCell];omega
   refine tkF 13 95 (h:=⟨_,tv,?_⟩);simp only [pE,List.set];refine tkF 14 96 (h:=⟨_,tv,?_⟩);simp only [pE,List.set];refine Qcc (k:=15) (by kernel_rfl) rfl (fun K hK=>?_);go_simp;refine hK.out _ _ ?_;clear hK K;refine Qbw (by kernel_rfl) ?_ _;obtain ⟨V3,hVO⟩:∃ V3,V3=w10.setCell ⟨w2.heap.size,q*2+1,none⟩ (.slice RA' (lq.length+1) rc'):=⟨_,rfl⟩;rw [←hVO] at hIF hbF hXF hzF ⊢;clear hVO hcg hcy hfv hff ho10 hg10 hat10 hI9 hX9 hrd9 hro9 hrc9 hcx9 hwb9 hsz9 hb9 hxA hoz cwc ffc hoc hcx HIV HXV HZV HWV HLX;have HIV:=Zh hIF;have HXV:=Zh hXF;have HZV:=Zh hzF;have HWV:=Zh hbF;clear hIF hbF hXF hzF;have hIF:=HIV.out;rw [←HNX.out] at hIF;have HIF:=Zh hIF;clear hIF HIV
   go_wp2_with fail
   go_roundw
   case rel=>exact ⟨HZV.out,HWV.out,j+1,by omega,by go_num,HXV.out,HIF.out⟩
   case measure=>simp [intOf];omega
abbrev Ent:=Nat×Nat×Nat×Nat
def Qhr (e:Ent):List Value:=[.int .i64 ((e.1:Int)+1),.int .i64 (e.2.1:Int),.int .i64 (e.2.2.1:Int),.int .i64 (e.2.2.2:Int)]
def Qer (l:List Ent):List Value:=l.flatMap Qhr
theorem Qwd (l m:List Ent):Qer (l ++m)=Qer l ++Qer m:=by simp [Qer]
theorem Qwr (e:Ent):Qer [e]=Qhr e:=by simp [Qer]
theorem Qpn (e:Ent):∀ u∈Qhr e,u.oneCell'=true:=by
 intro u hu;simp only [Qhr,List.mem_cons,List.not_mem_nil,or_false] at hu
 rcases hu with rfl|rfl|rfl|rfl <;> rfl
theorem Qoy:∀ (l:List Ent)(k:Nat)(e:Ent),l[k]?=some e→∀ q,q<4→(Qer l)[k*4+q]?=(Qhr e)[q]?
 | [],k,e,h,_,_=>by simp at h
 | x::t,0,e,h,q,hq=>by
  simp only [Yn,Option.some.injEq] at h;subst h
  show (Qhr x ++Qer t)[0*4+q]?=_
  rw [Nat.zero_mul,Yz,Yc (by simpa [Qhr] using hq)]
 | x::t,k+1,e,h,q,hq=>by
  have:=Qoy t k e (by simpa using h) q hq
  show (Qhr x ++Qer t)[(k+1)*4+q]?=_
  rw [Yb (by simp [Qhr];omega),←this]
  congr 1
  simp [Qhr];omega
def EntP (N:Qak) (ls:List (List Int)) (EL:List Ent):Prop:=∀ (k:Nat) (e:Ent),EL[k]?=some e→∃ l x s t,Qfs N ls k e.1 l e.2.1 x e.2.2.1 e.2.2.2 s t
theorem EntP.push {N:Qak} {ls:List (List Int)} {EL:List Ent} {e:Ent} (h:EntP N ls EL) (he:∃ l x s t,Qfs N ls EL.length e.1 l e.2.1 x e.2.2.1 e.2.2.2 s t):EntP N ls (EL ++[e]):=fun k f hk=>by
 rcases Nat.lt_trichotomy k EL.length with e1|e1|e1
 · rw [Yc e1] at hk;exact h k f hk
 · subst e1;rw [Yb (Zn _),Yy] at hk;cases hk;exact he
 · rw [Yd (by simp;omega)] at hk;cases hk
structure OvN (w1 V1:World) (F:Nat→Prop) (b5:Nat) (x0 x1 x2 x3 x4:Value) (N:Qak) (ls:List (List Int)) (V:World) (A:Option Addr) (cp:Nat) (EL:List Ent):Prop where
 kept:Qbb F V1 V
 size:V1.heap.size≤V.heap.size
 bel:Below w1.heap.size w1 V
 box:Blk V b5 57 #[x0,x1,x2,x3,x4,.slice A EL.length cp]
 own:Own V V1.heap.size 76 4 A EL.length cp (Qer EL)
 row:EntP N ls EL
section
variable {w1 V1 V V':World} {F:Nat→Prop} {b5:Nat} {x0 x1 x2 x3 x4:Value} {N:Qak} {ls:List (List Int)} {A:Option Addr} {cp:Nat} {EL:List Ent}
theorem OvN.below (h:OvN w1 V1 F b5 x0 x1 x2 x3 x4 N ls V A cp EL)(hb:Below V.heap.size V V'):OvN w1 V1 F b5 x0 x1 x2 x3 x4 N ls V' A cp EL :=
 ⟨h.kept.trans (Qbb.below hb) h.size,Yx h.size hb.size,Zb h.bel hb,h.box.below hb h.box.lt,h.own.below hb,h.row⟩
theorem OvN.le (h:OvN w1 V1 F b5 x0 x1 x2 x3 x4 N ls V A cp EL):Le (msk V1 F) V:=h.kept.msk.trans (Qbd _ _)
theorem OvN.push {A':Option Addr}{cp':Nat}{e:Ent}(h:OvN w1 V1 F b5 x0 x1 x2 x3 x4 N ls V A cp EL)(hF:∀ b,F b→b<V1.heap.size∧b≠b5)(hb:b5<V1.heap.size)(hw:w1.heap.size≤b5)
 (ho:Own V' V1.heap.size 76 4 A' (EL.length+1) cp' (Qer EL ++Qhr e)) (hg:V.grownBy V' (Qac A)) (he:∃ l x s t,Qfs N ls EL.length e.1 l e.2.1 x e.2.2.1 e.2.2.2 s t) :
 OvN w1 V1 F b5 x0 x1 x2 x3 x4 N ls (V'.setCell ⟨b5,5,none⟩ (.slice A' (EL.length+1) cp')) A' cp' (EL ++[e]):=by
 have hA:∀ g,Qac A=some g→V1.heap.size≤g:=fun g e=>(h.own.lt g e).1
 have hz:V1.heap.size≤V'.heap.size:=Yx h.size hg.size;have hx:=h.box.grown hg (fun e=>by have:=hA _ e;omega);refine ⟨?_,by simpa [World.setCell] using hz,?_,?_,?_,h.row.push he⟩
 · refine (h.kept.trans (Qbb.grown hg (fun b hb' e=>by have:=hA _ e;have:=(hF b hb').1;omega)) h.size).trans (Qbb.set V' b5 5 _ (fun e=>(hF b5 e).2 rfl)) hz
 · exact Zi (h.bel.grown hg h.bel.size (fun g e=>by have:=hA _ e;have:=h.bel.size;omega)) hw
 · rw [Yp]
   have:=hx.set_ 5 (.slice A' (EL.length+1) cp')
   simpa using this
 · rw [Yp,Qwd,Qwr]
   exact ho.far (Qaa _ _ _ _) (.inr (fun e=>by have:=(ho.lt b5 e).1;omega))
end
theorem Qld {G:Nat→Prop}{W:World}{g:Nat}(hg:¬G g)(v0 v1 v2 v3 v4 v5:Value):Qbb G W ((((((W.setCell ⟨g,0,none⟩ v0).setCell ⟨g,1,none⟩ v1).setCell ⟨g,2,none⟩ v2).setCell ⟨g,3,none⟩ v3).setCell ⟨g,4,none⟩ v4).setCell ⟨g,5,none⟩ v5):=fun b hb hl=>by
 have key:∀ (W':World) (o:Nat) (v:Value),b<W'.heap.size→(W'.setCell ⟨g,o,none⟩ v).heap[b]?=W'.heap[b]?∧b<(W'.setCell ⟨g,o,none⟩ v).heap.size:=fun W' o v h'=>⟨(Qaa W' g o v).block b h' (fun e=>hg (by cases e;exact hb)),by simpa [World.setCell] using h'⟩
 obtain ⟨e0,h0⟩:=key W 0 v0 hl;obtain ⟨e1,h1⟩:=key _ 1 v1 h0;obtain ⟨e2,h2⟩:=key _ 2 v2 h1;obtain ⟨e3,h3⟩:=key _ 3 v3 h2;obtain ⟨e4,h4⟩:=key _ 4 v4 h3;obtain ⟨e5,h5⟩:=key _ 5 v5 h4;rw [e5,e4,e3,e2,e1,e0]
def Qzy (w:World)(xA xB xC xQ:Value)(L:Nat)(N:Qak) (ls:List (List Int)) (r:Ending) (w':World):Prop :=
 ∃ (G:Option Addr) (cg:Nat) (AE:Option Addr) (ce:Nat) (EL:List Ent),r=.returned (.agg #[xA,xB,xC,xQ,.slice G L cg,.slice AE EL.length ce])∧RdG w' G L (gatesOf N.ar ls)∧Rds w' 4 AE EL.length (Qer EL)∧EL.length=Qca (gatesOf N.ar ls)∧EntP N ls EL∧Below w.heap.size w w'
theorem Rae:(Tryz.prog.info? 76).map (fun i=>(i.zero,i.size,i.bytes))=some (some (.agg #[.int .i64 0,.int .i64 0,.int .i64 0,.int .i64 0]),4,32):=by kernel_rfl
set_option maxHeartbeats 1000000 in
theorem Qpm (xA xB xC xQ xE:Value)(G:Option Addr)(L cg i c:Nat)(ar:List Tri) (ls:List (List Int)) (l:List Int) (x:Qam) (V0 w:World) (hle:Le V0 w) (h:RdG V0 G L (gatesOf ar ls)) (hl:ls[i]?=some l) (hx:(gateRow ar l)[c]?=some x) (hL:L≤1000000) (hc:c≤1000000) :
 Calls prog 26 #[.agg #[xA,xB,xC,xQ,.slice G L cg,xE],.int .i64 ((i:Int)+1),.int .i64 c] w fun e w'=>∃ A1 n1 c1 A2 n2 c2,e=.returned (.agg #[.slice A1 n1 c1,.slice A2 n2 c2])∧RdI V0 A1 n1 x.1∧RdI V0 A2 n2 x.2∧Below w.heap.size w w':=by
 have hiL:i<L:=by
  rw [←h.1];unfold gatesOf;rw [List.length_map];exact (Zs hl).1
 obtain ⟨row,b,o,A',n',c',hrow,rfl,g1,g2,g3⟩:=h.at_ hiL
 have hrow':row=gateRow ar l:=by
  unfold gatesOf at hrow;rw [Yt,hl] at hrow;exact (Yv hrow).symm
 subst hrow';have hcn:c<n':=by rw [←g2.1];exact (Zs hx).1
 obtain ⟨x',rb,ro,A1,n1,c1,A2,n2,c2,hx',rfl,k1,k2,k3,k4,k5⟩:=g2.at_ hcn;rw [hx] at hx'
 cases hx'
 replace g1:=hle _ _ g1
 replace k1:=hle _ _ k1
 replace k3:=hle _ _ k3
 have HK2:=Zh k2;have HK4:=Zh k4;have i1:¬((i:Int)+1<1):=by omega
 have i2:¬((i:Int)+1 > (L:Int)):=by omega
 have i3:¬((c:Int)<0):=by omega
 have i4:¬((n':Int)≤(c:Int)):=by omega
 have i5:(i:Int)+1-1=(i:Int):=by omega
 have i6:(i:Int)<(L:Int):=by omega
 have i7:(0:Int)≤(i:Int):=by omega
 have i8:(c:Int)<(n':Int):=by omega
 have i9:(0:Int)≤(c:Int):=by omega
 have wl:IntKind.i64.wrap (i:Int)=(i:Int):=IntWalk.i64_in _ (by omega);have z1:=Qah g1;have z2:=Qah k1;simp only at z1 z2;obtain ⟨w1,hw1⟩:∃ w1,w1=(w.alloc (.cells #[xA,xB,xC,xQ,.slice (some ⟨b,o,none⟩) L cg,xE] 57)).alloc (.cells #[.slice none 0 0,.slice none 0 0] 73):=⟨_,rfl⟩;have hb1:Below w.heap.size w w1:=by rw [hw1];exact Qag
 have g1':=Zc hb1 (Zn _) g1;have k1':=Zc hb1 (Zn _) k1;have k3':=Zc hb1 (Zn _) k3;rw [hw1] at g1' k1' k3';clear h hl hx hrow hle g1 g2 k1 k2 k3 k4 k5 hw1 hb1
 go_enter func26,ntmps26
 go_wp2_with fail
 obtain ⟨w2,hw2⟩:∃ w2,w2=(w.alloc (.cells #[xA,xB,xC,xQ,.slice (some ⟨b,o,none⟩) L cg,xE] 57)).alloc (.cells #[.slice A1 n1 c1,.slice A2 n2 c2] 73):=⟨_,rfl⟩;rw [←hw2];have hb2:Below w.heap.size w w2:=by rw [hw2];exact Qag
 have hB2:Blk w2 (w.heap.size+1) 73 #[.slice A1 n1 c1,.slice A2 n2 c2]:=by
  rw [hw2];refine Blk.new' _ _ _ ?_;simp
 clear hw2 g1' k1' k3';obtain ⟨c0,c1',f0,f1⟩:=hB2.two;refine bodyPost_ret (v:=.agg #[.slice A1 n1 c1,.slice A2 n2 c2]) (by simp [results,results26,go_sem,c0,c1']) rfl ?_;exact ⟨_,_,_,_,_,⟨_,rfl⟩,HK2.out,HK4.out,hb2⟩
theorem Qqg (xA xB xC xQ xE:Value)(G:Option Addr)(L cg i c:Nat)(ar:List Tri) (ls:List (List Int)) (l:List Int) (x:Qam) (w:World) (h:RdG w G L (gatesOf ar ls)) (hl:ls[i]?=some l) (hx:(gateRow ar l)[c]?=some x) (hL:L≤1000000) (hc:c≤1000000) :
 Calls prog 26 #[.agg #[xA,xB,xC,xQ,.slice G L cg,xE],.int .i64 ((i:Int)+1),.int .i64 c] w fun e w'=>∃ A1 n1 c1 A2 n2 c2,e=.returned (.agg #[.slice A1 n1 c1,.slice A2 n2 c2])∧RdI w' A1 n1 x.1∧RdI w' A2 n2 x.2∧Below w.heap.size w w' :=
 (Qpm xA xB xC xQ xE G L cg i c ar ls l x w w (fun _ _ h=>h) h hl hx hL hc).mono (fun _ _ ⟨A1,n1,c1,A2,n2,c2,h1,h2,h3,h4⟩=>⟨A1,n1,c1,A2,n2,c2,h1,h2.below h4,h3.below h4,h4⟩)
set_option maxHeartbeats 4000000 in
set_option maxRecDepth 20000 in
theorem Qsc (A B C Q:Option Addr)(n m k c d e L cq:Nat)(N:Qak) (ls:List (List Int)) (w:World) (h:Qbg w A B C n m k N) (hok:Qas N) (hq:RdT w Q L ls) (hP:Qbc N.vs.length ls) (hNC:Qca (gatesOf N.ar ls)≤1000000000) :
 Calls prog 18 #[.agg #[.slice A n c,.slice B m d,.slice C k e],.agg #[.slice Q L cq]] w (Qzy w (.slice A n c) (.slice B m d) (.slice C k e) (.slice Q L cq) L N ls):=by
 have HGT:=Zh (fun V (hV:Below w.heap.size w V)=>Qsb A B C Q n m k c d e L cq N ls V (h.below hV) hok (hq.below hV) hP);have HP:=Zh hP;have HLL:=Zh hq.1;have l6:L≤6:=by rw [←hq.1];exact hP.l6
 have hlv:=hok.lv;have hla:=hok.la;obtain ⟨NC,hNCe⟩:∃ NC,NC=Qca (gatesOf N.ar ls):=⟨_,rfl⟩;rw [←hNCe] at hNC;have HNC:=Zh hNCe;clear h hok hq hP hNCe
 go_enter func18,ntmps18
 go_wp2_with fail
 (refine Qai ?_;intro w1 hw1)
 have hb1:Below w.heap.size w w1:=by rw [hw1];exact Qag
 have hX:Blk w1 w.heap.size 26 #[.slice A n c,.slice B m d,.slice C k e]:=by
  rw [hw1];refine Blk.alloc (Blk.alloc ?_ _) _;exact Blk.new _ _ _
 have hY:Blk w1 (w.heap.size+1) 29 #[.slice Q L cq]:=by
  rw [hw1];refine Blk.alloc ?_ _;refine Blk.new' _ _ _ ?_;simp
 have hZ:Blk w1 (w.heap.size+1+1) 57 #[.slice none 0 0,.slice none 0 0,.slice none 0 0,.slice none 0 0,.slice none 0 0,.slice none 0 0]:=by
  rw [hw1];refine Blk.new' _ _ _ ?_;simp
 clear hw1
 have HSX:=Zh (show ∀ V,Below w1.heap.size w1 V→V.cell? ⟨w.heap.size,0,none⟩=some (.slice A n c)∧V.cell? ⟨w.heap.size,1,none⟩=some (.slice B m d)∧V.cell? ⟨w.heap.size,2,none⟩=some (.slice C k e)∧V.cell? ⟨w.heap.size+1,0,none⟩=some (.slice Q L cq) from
  fun V hV=>⟨by rw [(hX.below hV hX.lt).cell];rfl,by rw [(hX.below hV hX.lt).cell];rfl,by rw [(hX.below hV hX.lt).cell];rfl,by rw [(hY.below hV hY.lt).cell];rfl⟩)
 refine wp_region_held_drew (S:=fun V=>Below w1.heap.size w1 V) (by kernel_rfl) (Zr _ _).drew (fun _=>?_);refine tz 0 10 ?_;refine tz 1 11 ?_;refine tz 2 12 ?_;refine tz 3 13 ?_;refine wpAnyH_ready (rs:=[4,6]) (by kernel_rfl) (by simp) ?_;refine AllReadyH.cons (o:=_) rfl (fun K hK=>?_) (AllReadyH.cons (o:=_) rfl (fun K hK=>?_) AllReadyH.nil)
 · go_simp
   with_reducible refine (HGT.out _ (hb1.trans (Zr _ _).drew)).mono ?_
   rintro r w2 ⟨G,cg,rfl,hG,hb2⟩;go_simp;have hb2':Below w1.heap.size w1 w2:=(Zr _ _).drew.trans hb2;refine hK.out _ _ hb2' (fun _=>?_);clear hK K;refine tz 5 15 ?_;refine Zk 6 (fun K hK=>?_);go_simp;refine hK.out _ _ (Zb hb2' Qag) (fun _=>?_);clear hK K;refine Zk 7 (fun K hK=>?_);go_simp;refine hK.out _ _ (Zb hb2' Qag) (fun _=>?_);clear hK K;refine Zd ?_;obtain ⟨V1,hV1⟩:∃ V1,V1=w2.alloc (.cells #[.slice A n c,.slice B m d,.slice C k e,.slice Q L cq,.slice G L cg,.slice none 0 0] 57):=⟨_,rfl⟩;rw [←hV1];have hb2V:Below w2.heap.size w2 V1:=by rw [hV1];exact Qag
   have hBX':Blk V1 w2.heap.size 57 #[.slice A n c,.slice B m d,.slice C k e,.slice Q L cq,.slice G L cg,.slice none 0 0]:=by rw [hV1];exact Blk.new _ _ _
   have hbV:=Zb hb2' hb2V;clear hV1;obtain ⟨b5,hb5⟩:∃ b5,b5=w2.heap.size:=⟨_,rfl⟩;have hBX:Blk V1 b5 57 #[.slice A n c,.slice B m d,.slice C k e,.slice Q L cq,.slice G L cg,.slice none 0 0]:=by rw [hb5];exact hBX'
   obtain ⟨F,hFe⟩:∃ F:Nat→Prop,F=fun b=>w1.heap.size≤b∧b<w2.heap.size:=⟨_,rfl⟩
   have hG1:RdG (msk V1 F) G L (gatesOf N.ar ls):=hG.le ((Qbb.msk (Qbb.below hb2V)).trans (Qbe (fun b hb=>by rw [hFe];exact hb)));have hb51:b5<V1.heap.size:=hBX.lt
   have hb52:w1.heap.size≤b5:=by rw [hb5];exact hb2'.size
   have hFF:∀ b,F b→b<V1.heap.size∧b≠b5:=fun b hb=>by
    rw [hFe] at hb;have:=hb2V.size;exact ⟨by omega,by omega⟩
   have hFL:∀ b,F b→w1.heap.size≤b:=fun b hb=>by rw [hFe] at hb;exact hb.1
   rw [←hb5];clear hG hFe hb5 hBX' hb2V hb2 hb2'
   exact Kaa
 · go_simp
   have hb2:Below w1.heap.size w1 (w1.alloc (.cells #[.slice none 0 0,.slice none 0 0,.slice none 0 0,.slice none 0 0,.slice none 0 0,.slice none 0 0] 57)).drew:=((Zr _ _).alloc (Zn _) _).drew;refine hK.out _ _ hb2 (fun _=>?_);clear hK K;refine Zk 4 (fun K hK=>?_);go_simp;with_reducible refine (HGT.out _ (Zb hb1 hb2)).mono ?_
   rintro r w2 ⟨G,cg,rfl,hG,hb3⟩;go_simp;have hb2':Below w1.heap.size w1 w2:=Zb hb2 hb3;refine hK.out _ _ hb2' (fun _=>?_);clear hK K;refine tz 5 15 ?_;have hBo:Blk w2 w1.heap.size 57 #[.slice none 0 0,.slice none 0 0,.slice none 0 0,.slice none 0 0,.slice none 0 0,.slice none 0 0]:=((Blk.new w1 _ _).drew).below hb3 (Blk.new w1 57 #[.slice none 0 0,.slice none 0 0,.slice none 0 0,.slice none 0 0,.slice none 0 0,.slice none 0 0]).drew.lt;obtain ⟨b5,hb5⟩:∃ b5,b5=w1.heap.size:=⟨_,rfl⟩;have hbo:Blk w2 b5 57 #[.slice none 0 0,.slice none 0 0,.slice none 0 0,.slice none 0 0,.slice none 0 0,.slice none 0 0]:=by rw [hb5];exact hBo
   have HB5:=Zh hb5;have hz3:w1.heap.size+1≤w2.heap.size:=by have:=hBo.lt;omega
   rw [←hb5];clear hb5 hBo;have z0:w2.cell? ⟨b5,0,none⟩=some (.slice none 0 0):=Zq hbo;have z1:w2.cell? ⟨b5,1,none⟩=some (.slice none 0 0):=Zq hbo;have z2:w2.cell? ⟨b5,2,none⟩=some (.slice none 0 0):=Zq hbo;have z3:w2.cell? ⟨b5,3,none⟩=some (.slice none 0 0):=Zq hbo;have z4:w2.cell? ⟨b5,4,none⟩=some (.slice none 0 0):=Zq hbo;have z5:w2.cell? ⟨b5,5,none⟩=some (.slice none 0 0):=Zq hbo;have f0:=hbo.frozen 0;have f1:=hbo.frozen 1;have f2:=hbo.frozen 2;have f3:=hbo.frozen 3;have f4:=hbo.frozen 4;have f5:=hbo.frozen 5;have zl:=hbo.lt;refine Zk 7 (fun K hK=>?_);go_simp;obtain ⟨V1,hV1⟩:∃ V1,V1=(((((w2.setCell ⟨b5,0,none⟩ (.slice A n c)).setCell ⟨b5,1,none⟩ (.slice B m d)).setCell ⟨b5,2,none⟩ (.slice C k e)).setCell ⟨b5,3,none⟩ (.slice Q L cq)).setCell ⟨b5,4,none⟩ (.slice G L cg)).setCell ⟨b5,5,none⟩ (.slice none 0 0):=⟨_,rfl⟩;rw [←hV1]
   have hBX:Blk V1 b5 57 #[.slice A n c,.slice B m d,.slice C k e,.slice Q L cq,.slice G L cg,.slice none 0 0]:=by
    have:=(((((hbo.set_ 0 (.slice A n c)).set_ 1 (.slice B m d)).set_ 2 (.slice C k e)).set_ 3 (.slice Q L cq)).set_ 4 (.slice G L cg)).set_ 5 (.slice none 0 0);rw [←hV1] at this
    simpa using this
   have hbV:Below w1.heap.size w1 V1:=by
    rw [hV1];have hle:w1.heap.size≤b5:=by rw [HB5.out];exact Zn _
    exact Zi (Zi (Zi (Zi (Zi (Zi hb2' hle) hle) hle) hle) hle) hle
   have hk9:Qbb (fun b=>b≠b5) w2 V1:=by rw [hV1];exact Qld (fun e=>e rfl) _ _ _ _ _ _
   have hzV:V1.heap.size=w2.heap.size:=by rw [hV1];simp [World.setCell]
   refine hK.out _ _ (by rw [HB5.out];exact hbV) (fun _=>?_);clear hK K;refine Zd ?_;obtain ⟨F,hFe⟩:∃ F:Nat→Prop,F=fun b=>w1.heap.size+1≤b∧b<w2.heap.size:=⟨_,rfl⟩
   have hFF:∀ b,F b→b<V1.heap.size∧b≠b5:=fun b hb=>by
    rw [hFe] at hb;rw [hzV,HB5.out];exact ⟨by omega,by omega⟩
   have hG1:RdG (msk V1 F) G L (gatesOf N.ar ls):=by
    refine hG.le (Le.trans (Qbe (G':=F) (fun b hb=>?_)) (Qbb.msk (hk9.mono (fun b hb=>(hFF b hb).2))));rw [hFe];have h1:=hb.1;have h2:=hb.2;simp at h1;exact ⟨h1,h2⟩
   have hb51:b5<V1.heap.size:=hBX.lt
   have hb52:w1.heap.size≤b5:=by rw [HB5.out];exact Zn _
   have hFL:∀ b,F b→w1.heap.size≤b:=fun b hb=>by rw [hFe] at hb;omega
   clear hG hFe HB5 hbo hb2 hb2' hb3 hV1 hk9 hzV hz3 z0 z1 z2 z3 z4 z5 f0 f1 f2 f3 f4 f5 zl
   exact Kaa
end Go.Proofs.YtdheeddnkdhfeaaGreatDoor
