/- Parts of the proof: RoG. -/
import Derived.Test.YtdheeddnkdhfeaaGreatDoorA24
namespace Go.Proofs.YtdheeddnkdhfeaaGreatDoor
open Go.RowKit Go.Proofs.Tryz
attribute [local go_sem ↓] Go.wp_at_zero Go.wp_at_succ
set_option maxHeartbeats 1000000 in
theorem Qrl (Q:Option Addr)(L cq i:Nat) (ls:List (List Int)) (l:List Int) (w:World) (h:RdT w Q L ls) (hl:ls[i]?=some l) (hL:L≤1000000) (hb:∀ x∈l,0≤x∧x≤1000000) (hn:l.length≤1000000) :
 Calls prog 111 #[.agg #[.slice Q L cq],.int .i64 ((i:Int)+1)] w fun e w'=>e=.returned (.int .i64 (Qar l))∧Below w.heap.size w w':=by
 have hiL:i<L:=by rw [←h.1];exact (Zs hl).1
 obtain ⟨qb,qo,A1,n1,c1,l1,rfl,hl1,k0,k1,k2,k3⟩:=h.at_ hiL;rw [hl] at hl1
 cases hl1
 have hn1:n1≤1000000:=by rw [←k1.1];exact hn
 have HMO:=Zh (fun V (hV:Below w.heap.size w V)=>Qsd A1 n1 c1 l V (k1.below hV) hn1 hb);have HK0:=Zh (show ∀ V,Below w.heap.size w V→V.cell? ⟨qb,qo+i,none⟩=some (.slice A1 n1 c1) from fun V hV=>Zc hV (Zn _) k0)
 have i4:(i:Int)+1-1=(i:Int):=by omega
 have i2:(i:Int)<(L:Int):=by omega
 have i3:(0:Int)≤(i:Int):=by omega
 have wl:IntKind.i64.wrap (i:Int)=(i:Int):=IntWalk.i64_in _ (by omega);clear h hl hb hn k0 k1 k2 k3
 go_enter func111,ntmps111
 go_wp2_with fail
 (refine Qae ?_;intro w1 hw1)
 have hb1:Below w.heap.size w w1:=by rw [hw1];exact Qah
 have hX1:Blk w1 w.heap.size 29 #[.slice (some ⟨qb,qo,none⟩) L cq]:=by rw [hw1];exact Blk.new _ _ _
 clear hw1;with_reducible refine (Qhm _ L cq i w1 hiL).mono ?_
 rintro r w2 ⟨rfl,hb2⟩;have hX2:=hX1.below hb2 hX1.lt;have hb2':=Zb hb1 hb2;have x0:w2.cell? ⟨w.heap.size,0,none⟩=some (.slice (some ⟨qb,qo,none⟩) L cq):=Zq hX2;have x2:=HK0.out w2 hb2';clear hb1 hb2 hX1 hX2
 go_wp2_with fail
 with_reducible refine (HMO.out w2 hb2').mono ?_
 rintro r w3 ⟨rfl,rfl⟩
 go_wp2_with fail
 go_ret
 exact ⟨rfl,hb2'⟩
theorem Qwp:(Tryz.prog.info? 73).map (fun i=>(i.zero,i.size,i.bytes))=some (some (.agg #[.slice none 0 0,.slice none 0 0]),2,48):=by kernel_rfl
theorem Quv:(Tryz.prog.info? 128).map (fun i=>(i.zero,i.size,i.bytes))=some (some (.slice none 0 0),1,24):=by kernel_rfl
theorem Qmx (k:Nat)(hk:k≤1000000)(W:World):(Instr.makeSlice 128 (.int .i64 (k:Int)) (.int .i64 (k:Int))).run prog W=.ok (.slice (some ⟨W.heap.size,0,none⟩) k k) (W.alloc (.cells (Qbp (.slice none 0 0) (k*2)) 73)):=by
 obtain ⟨i,hi,hz,hs,hbb⟩:=info_parts Qwp
 have hb':(i.bytes:Int)*(k:Int)≤281474976710656:=by
  rw [hbb];omega
 have hr:=run_make (P:=prog) W 128 73 i _ underlying128 hi hz .i64 .i64 k k (by omega) (by omega) hb' (by omega);simp only [Yl] at hr;rw [hs,show (Value.agg #[.slice none 0 0,.slice none 0 0]).cells=#[.slice none 0 0,.slice none 0 0] from rfl,Qxx] at hr
 exact hr
def GtL (W:World)(B:Nat)(A:Option Addr)(i c:Nat)(xs:List Value)(ar:List Tri) (ls:List (List Int)):Prop :=
 Own W B 128 1 A i c xs∧∀ (j:Nat) (l:List Int),j<i→ls[j]?=some l→∃ (A2:Option Addr) (c2:Nat),xs[j]?=some (.slice A2 (Qar l).toNat c2)∧RdC (msk W (fun b=>B≤b∧b<W.heap.size∧Qab A≠some b)) A2 (Qar l).toNat (Qaf ar l)∧(Qar l).toNat≤c2∧c2≤9223372036854775807
section
variable {W W':World} {B i c:Nat} {A:Option Addr} {xs:List Value} {ar:List Tri} {ls:List (List Int)}
theorem GtL.nil (W:World)(B:Nat)(ar:List Tri) (ls:List (List Int)):GtL W B none 0 0 [] ar ls:=⟨Own.nil _ _ _ _,fun _ _ h=>absurd h (Nat.not_lt_zero _)⟩
theorem GtL.below (h:GtL W B A i c xs ar ls)(hb:Below W.heap.size W W'):GtL W' B A i c xs ar ls :=
 ⟨h.1.below hb,fun j l hj hl=>by
  obtain ⟨A2,c2,h1,h2,h3⟩:=h.2 j l hj hl;exact ⟨A2,c2,h1,h2.le (Le.trans (Qbc.msk (Qbc.below hb)) (Qbk (fun b hb'=>⟨hb'.1,Yu hb'.2.1 hb.size,hb'.2.2⟩))),h3⟩⟩
theorem GtL.push {l:List Int}{R:Option Addr}{c' cr:Nat}{A':Option Addr}(h:GtL W B A i c xs ar ls) (hl:ls[i]?=some l)
 (hr:RdC (msk W (fun b=>B≤b∧b<W.heap.size∧Qab A≠some b)) R (Qar l).toNat (Qaf ar l)) (h1:(Qar l).toNat≤cr) (h2:cr≤9223372036854775807)
 (ho:Own W' B 128 1 A' (i+1) c' (xs ++[.slice R (Qar l).toNat cr])) (hg:W.grownBy W' (Qab A)) (hat:Qab A'=Qab A∨Qab A'=some W.heap.size):GtL W' B A' (i+1) c' (xs ++[.slice R (Qar l).toNat cr]) ar ls:=by
 have hxl:xs.length=i:=by rw [h.1.1,Nat.mul_one]
 have hle:Le (msk W (fun b=>B≤b∧b<W.heap.size∧Qab A≠some b)) (msk W' (fun b=>B≤b∧b<W'.heap.size∧Qab A'≠some b)) :=
  Le.trans (Qbc.msk (Qbc.grown hg (fun b hb=>hb.2.2))) (Qbk (fun b hb=>⟨hb.1,Yu hb.2.1 hg.size,fun e=>by
   rcases hat with e2|e2
   · exact hb.2.2 (e2▸e)
   · rw [e2] at e
     have:=Yv e;omega⟩))
 refine ⟨ho,fun j l' hj hl'=>?_⟩
 by_cases e:j=i
 · subst e
   rw [hl] at hl'
   cases hl'
   exact ⟨R,cr,by rw [←hxl,Yb (Zn _),Yy];rfl,hr.le hle,h1,h2⟩
 · obtain ⟨A2,c2,k1,k2,k3⟩:=h.2 j l' (by omega) hl'
   exact ⟨A2,c2,by rw [Yc (by omega)];exact k1,k2.le hle,k3⟩
theorem GtL.rdG {G:Nat→Prop}(h:GtL W B A i c xs ar ls)(hl:ls.length=i)(hG:∀ b,B≤b→b<W.heap.size→G b):RdG (msk W G) A i (Qac ar ls):=by
 refine ⟨by simp [Qac,hl],fun j row hr=>?_⟩;unfold Qac at hr;rw [Yt] at hr
 cases e:ls[j]? with
 | none=>rw [e] at hr;cases hr
 | some l =>
  rw [e] at hr
  cases hr
  obtain ⟨A2,c2,k1,k2,k3⟩:=h.2 j l (by rw [←hl];exact (Zs e).1) e;obtain ⟨b,o,e2,k4⟩:=h.1.rds.2 _ _ k1;have hb:=h.1.lt b (by rw [e2];rfl);exact ⟨b,o,A2,_,c2,e2,Qba.2 ⟨hG b hb.1 hb.2,k4⟩,k2.le (Qbk (fun b hb=>hG b hb.1 hb.2.1)),k3⟩
end
set_option maxHeartbeats 4000000 in
set_option maxRecDepth 20000 in
theorem Qrt (A B C Q:Option Addr)(n m k c d e L cq:Nat)(N:Qam) (ls:List (List Int)) (w:World) (h:Qce w A B C n m k N) (hok:Qap N) (hq:RdT w Q L ls) (hP:Qaw N.vs.length ls) :
 Calls prog 55 #[.agg #[.slice A n c,.slice B m d,.slice C k e],.agg #[.slice Q L cq]] w fun r w'=>∃ A' c',r=.returned (.slice A' L c')∧RdG (msk w' (fun b=>w.heap.size≤b∧b<w'.heap.size)) A' L (Qac N.ar ls)∧Below w.heap.size w w':=by
 have HH:=Zh h;have HT:=Zh hq;have HP:=Zh hP;have HOK:=Zh hok;have HVN:=Zh h.1.1;have hn4:n≤4096:=by rw [←h.1.1];exact hok.lv
 have hm:N.ar.length≤16384:=hok.la;have HMM:=Zh hm;have HLM:=Zh h.2.1.1;have l6:L≤6:=by rw [←hq.1];exact hP.l6
 clear h hok hq hP hm
 go_enter func55,ntmps55
 go_wp2_with fail
 (refine Qai ?_;intro w1 hw1)
 have hb1:Below w.heap.size w w1:=by rw [hw1];exact Qah
 have hX:Blk w1 w.heap.size 26 #[.slice A n c,.slice B m d,.slice C k e]:=by
  rw [hw1];refine Blk.alloc ?_ _;exact Blk.new _ _ _
 have hY:Blk w1 (w.heap.size+1) 29 #[.slice Q L cq]:=by
  rw [hw1];refine Blk.new' _ _ _ ?_;simp
 clear hw1
 go_loopw [5,6] (fun z q W=>∃ (i:Nat) (A':Option Addr) (c':Nat) (xs:List Value),i≤L∧q=.int .i64 ((i:Int)+1)∧z=.slice A' i c'∧GtL W w1.heap.size A' i c' xs N.ar ls∧Below w1.heap.size w1 W) (fun _ q _=>L+1-(intOf q).toNat)
 case atStart=>exact ⟨0,none,0,[],Nat.zero_le _,rfl,rfl,GtL.nil _ _ _ _,Zr _ _⟩
 case round =>
  obtain ⟨i,A',c',xs,hi,rfl,rfl,hGt,hbl⟩:=hrel;have HGT:=Zh hGt;have hbw:=Zb hb1 hbl;have hXr:=hX.below hbl hX.lt;have hYr:=hY.below hbl hY.lt;have x0:wr.cell? ⟨w.heap.size,0,none⟩=some (.slice A n c):=Zq hXr;have x1:wr.cell? ⟨w.heap.size,1,none⟩=some (.slice B m d):=Zq hXr;have x2:wr.cell? ⟨w.heap.size,2,none⟩=some (.slice C k e):=Zq hXr;have y0:wr.cell? ⟨w.heap.size+1,0,none⟩=some (.slice Q L cq):=Zq hYr;have yl:=hYr.lt;clear hGt
  by_cases hlt:i<L
  rotate_left
  · obtain rfl:i=L:=by omega
    have i1:¬((i:Int)+1≤(i:Int)):=by omega
    go_wp2_with fail
    go_ret
    exact ⟨A',⟨c',rfl⟩,HGT.out.rdG HT.out.1 (fun b h1 h2=>⟨by have:=hb1.size;omega,h2⟩),hbw⟩
  obtain ⟨qb,qo,LA,ln,lc,l,rfl,hl,hc,hr,q1,q2⟩:=HT.out.at_ hlt;have hlo:=HP.out.lvl l (Zm hl);obtain rfl:n=ln:=by rw [←hr.1,hlo.len];exact HVN.out.symm
  have hM0:=Qcc l;have hM1:=Qch (l:=l) (n:=(n:Int)) (fun x hx=>by have:=hlo.hi x hx;have:=HVN.out;omega) (by omega);obtain ⟨M,hM⟩:∃ M:Nat,Qar l=M:=⟨(Qar l).toNat,by omega⟩;have HCN:=Zh (show ∀ V,Below w.heap.size w V→Calls prog 111 #[.agg #[.slice (some ⟨qb,qo,none⟩) L cq],.int .i64 ((i:Int)+1)] V fun e w'=>e=.returned (.int .i64 M)∧Below V.heap.size V w' from fun V hV=>hM▸Qrl _ L cq i ls l V (HT.out.below hV) hl (by omega) (fun x hx=>⟨hlo.lo x hx,by have:=hlo.hi x hx;have:=HVN.out;omega⟩) (by have:=hlo.len;have:=HVN.out;omega))
  have HCR:=Zh (fun V (hV:Below w.heap.size w V)=>Qka A B C (some ⟨qb,qo,none⟩) n m k c d e L cq i N ls l V (HH.out.below hV) HOK.out (HT.out.below hV) hl hlo.len (by omega));have HLO:=Zh hlo;have HLL:=Zh hl;have HR:=Zh hr;have HC:=Zh hc;have HMM2:=Zh hM;rw [hM] at hM0 hM1;have hM3:M≤1000000:=by omega
  have hmkc:=Qmx M hM3;have i1:(i:Int)+1≤(L:Int):=by omega
  clear hr hlo hl hc q1 q2 hM
  go_wp2_with fail
  with_reducible refine (HCN.out wr hbw).mono ?_
  rintro r w2' ⟨rfl,hb2⟩;obtain ⟨w2,hw2⟩:∃ w2,w2=w2':=⟨_,rfl⟩;subst hw2;have hbr2:=hb2;have hbl2:=Zb hbl hb2;have hbw2:=Zb hbw hb2;have HGT2:=Zh (HGT.out.below hb2);have hX2:=hXr.below hb2 hXr.lt;have hY2:=hYr.below hb2 hYr.lt;clear x0 x1 x2 y0 yl hb2 hXr hYr hbl hbw HGT;have x0:w2.cell? ⟨w.heap.size,0,none⟩=some (.slice A n c):=Zq hX2;have x1:w2.cell? ⟨w.heap.size,1,none⟩=some (.slice B m d):=Zq hX2;have x2:w2.cell? ⟨w.heap.size,2,none⟩=some (.slice C k e):=Zq hX2;have y0:w2.cell? ⟨w.heap.size+1,0,none⟩=some (.slice (some ⟨qb,qo,none⟩) L cq):=Zq hY2;have yl:=hY2.lt;have hz12:=hbl2.size;have hXl:=hX2.lt;have x0b:=fun o=>Zc (show Below w2.heap.size w2 (w2.alloc o) from Qah) (Zn _) x0
  have x1b:=fun o=>Zc (show Below w2.heap.size w2 (w2.alloc o) from Qah) (Zn _) x1
  have x2b:=fun o=>Zc (show Below w2.heap.size w2 (w2.alloc o) from Qah) (Zn _) x2
  have y0b:=fun o=>Zc (show Below w2.heap.size w2 (w2.alloc o) from Qah) (Zn _) y0
  go_wp2_with fail
  (refine Qae ?_;intro w5 hw5)
  have hb45:Below w2.heap.size w2 w5:=by rw [hw5];exact Qah
  have hC5:Blk w5 w2.heap.size 73 (Qbp (.slice none 0 0) (M*2)):=by rw [hw5];exact Blk.new _ _ _
  clear hw5 x0 x1 x2 y0 x0b x1b x2b y0b hmkc;have hbw5:=Zb hbw2 hb45;have hz45:w2.heap.size+1≤w5.heap.size:=by have:=hC5.lt;omega
  with_reducible refine (HCR.out w5 hbw5).mono ?_
  rintro r w6 ⟨AX,KX,cX,rfl,hX6,hXlo,hb6⟩;have HXlo:=Zh hXlo;clear hXlo;have hKX:KX=(Qas N.ar l).length:=hX6.1.symm;subst hKX;have hb26:=Zb hb45 hb6;have hbw6:=Zb hbw5 hb6
  have hI6:IkG 73 w6 w6.heap.size w2.heap.size (M*2) (Qdu (toC N.ar l) (frC N.ar l) ((Qas N.ar l).take 0) M):=by
   rw [List.take_zero,Qpf];exact IkG.start (by have:=hb6.size;omega) (hC5.below hb6 hC5.lt)
  have HXL:=Zh (show ∀ x∈Qas N.ar l,∃ (a:Nat) (y:Tri),x=(a:Int)∧N.ar[a]?=some y from fun x hx=>by
   obtain ⟨a,y,e1,e2,_⟩:=Qst.1 hx;exact ⟨a,y,e1,e2⟩)
  have hXm:(Qas N.ar l).length≤16384:=Yx (Qgl _ _) HMM.out;have hz56:=hb6.size;have HX6:=Zh hX6;clear hC5 hb45 hb6 hbw5;generalize hKK:(Qas N.ar l).length=K at *;have HKK:=Zh hKK;clear hKK
  go_wp2_with fail
  go_loopw [9] (fun q W=>w6.heap.size≤W.heap.size∧Below w2.heap.size w2 W∧∃ j:Nat,j≤K∧q=.int .i64 j∧RdI W AX K (Qas N.ar l)∧IkG 73 W w6.heap.size w2.heap.size (M*2) (Qdu (toC N.ar l) (frC N.ar l) ((Qas N.ar l).take j) M)) (fun q _=>K-(intOf q).toNat)
  case atStart=>exact ⟨Zn _,hb26,0,Nat.zero_le _,rfl,hX6,hI6⟩
  case round =>
   clear hb26 hX6 hI6;obtain ⟨hsz6,hbl2w,j,hj,rfl,hXj,hI⟩:=hrel
   by_cases hlt2:j<K
   rotate_left
   · obtain rfl:K=j:=by omega
     rw [Ye (by rw [HKK.out];exact Zn _)] at hI;have HG9:=Zh (HGT2.out.below hbl2w)
     have HRC:=Zh (show RdC (msk wr (fun b=>w1.heap.size≤b∧b<wr.heap.size∧Qab A'≠some b)) (some ⟨w2.heap.size,0,none⟩) (Qar l).toNat (Qaf N.ar l) from by
      have hI':IkG 73 wr w6.heap.size w2.heap.size ((Qar l).toNat*2) (Qdu (toC N.ar l) (frC N.ar l) (Qas N.ar l) (Qar l).toNat):=by
       rw [HMM2.out,Yl];exact hI
      exact hI'.rdCM ⟨by omega,hI.lt,fun e=>by have:=(HGT2.out.1.lt _ e).2;omega⟩ (fun b h1 h2=>⟨by omega,h2,fun e=>by have:=(HGT2.out.1.lt _ e).2;omega⟩))
     have HMN:=Zh (show (Qar l).toNat=M by rw [HMM2.out];simp)
     obtain ⟨W2,hW2⟩:∃ W2,W2=wr.alloc (.cells #[.slice (some ⟨w2.heap.size,0,none⟩) M M] 128):=⟨_,rfl⟩;have hbW:Below wr.heap.size wr W2:=by rw [hW2];exact Qah
     have HG10:=Zh (HG9.out.below hbW);have hown:=HG10.out.1;have hrd:Rds W2 1 (some ⟨wr.heap.size,0,none⟩) 1 [.slice (some ⟨w2.heap.size,0,none⟩) M M]:=by rw [hW2];exact (Blk.new wr 128 #[.slice (some ⟨w2.heap.size,0,none⟩) M M]).rds rfl
     have hsz:w1.heap.size≤W2.heap.size:=by have:=hbW.size;have:=hbl2w.size;omega
     have hbw9:=Zb (Zb hbl2 hbl2w) hbW;have HW2:=Zh hW2;have j2:¬((K:Int)<(K:Int)):=by omega
     clear hW2 hI hXj
     go_wp2_with (at_builtin;rw [←HW2.out];with_reducible refine Qal rfl (.tmp 97) (.tmp 99) 54 rfl 128 _ 1 24 Quv underlying54 rfl (by omega) rfl rfl hown hrd (Qcr _ _ _) (by omega) (by omega) hsz ?_)
     intro A3 c3 w8 ho8 hg8 hat8;have HB8:=Zh (Zo hbw9 hg8 hown hsz);have HG11:=Zh (show GtL w8 w1.heap.size A3 (i+1) c3 (xs ++[.slice (some ⟨w2.heap.size,0,none⟩) (Qar l).toNat M]) N.ar ls from HG10.out.push HLL.out (HRC.out.le (Le.trans (Qbc.msk (Qbc.below hbW)) (Qbk (fun b hb'=>⟨hb'.1,Yu hb'.2.1 hbW.size,hb'.2.2⟩)))) (by rw [HMN.out];exact Zn _) (by omega) (by rw [HMN.out];exact ho8) hg8 hat8)
     clear hown hrd hsz hbw9 ho8 hg8 hat8 hbW
     go_wp2_with fail
     go_roundw
     case rel=>exact ⟨i+1,A3,c3,_,by omega,by go_num,rfl,HG11.out,HB8.out⟩
     case measure=>simp [intOf];omega
   obtain ⟨xb,xo,x,rfl,hx,hc6⟩:=HX6.out.at_ hlt2;obtain ⟨a,⟨u,v,z⟩,rfl,hay⟩:=HXL.out x (Zm hx);have hxb6:=Qaj hc6;simp only at hxb6;have hu0:=HOK.out.arcs _ (Zm hay);have f0:=hu0.f0;have f1:=hu0.f1;have g0:=hu0.g0;have g1:=hu0.g1;simp only at f0 f1 g0 g1;rw [HVN.out] at f1 g1;obtain ⟨u,rfl⟩:∃ u':Nat,u=u':=⟨u.toNat,by omega⟩;obtain ⟨v,rfl⟩:∃ v':Nat,v=v':=⟨v.toNat,by omega⟩;obtain ⟨p,hp1,hp2,hp3⟩:=Qcl HLO.out (v:=v) (by rw [HVN.out];omega);obtain ⟨q,hq1,hq2,hq3⟩:=Qcl HLO.out (v:=u) (by rw [HVN.out];omega);rw [HMM2.out,Yl] at hp2 hq2;have hbww:=Zb hbw2 hbl2w;obtain ⟨rb,ro,_,rfl,e1,cp⟩:=(HR.out.below hbww).at_ (i:=v) (by omega);rw [hp3] at e1
   cases e1
   obtain ⟨rb',ro',_,e2,e1,cq'⟩:=(HR.out.below hbww).at_ (i:=u) (by omega);rw [hq3] at e1
   cases e1
   cases e2
   have hrow:=Zc hbww (Zn _) HC.out;obtain ⟨ab,ao,rfl,y1,y2,y3⟩:=(HH.out.below hbww).2.1.2 a _ hay;simp only at y1 y2 y3;have hXr:=hX2.below hbl2w hX2.lt;have hYr:=hY2.below hbl2w hY2.lt;have ham:a<m:=by rw [←HLM.out];exact (Zs hay).1
   obtain ⟨_,_,_,eX,hx',hcx⟩:=hXj.at_ hlt2
   cases eX
   rw [hx] at hx'
   cases hx'
   have HNX:=Zh (show Qdu (toC N.ar l) (frC N.ar l) ((Qas N.ar l).take (j+1)) M=((Qdu (toC N.ar l) (frC N.ar l) ((Qas N.ar l).take j) M).set (p*2) (((Qas N.ar l).take j).filter (fun a=>toC N.ar l a == (p:Int)) ++[(a:Int)])).set (q*2+1) (((Qas N.ar l).take j).filter (fun a=>frC N.ar l a == (q:Int)) ++[(a:Int)]) by
    rw [Qli ((Qmg hay).trans hp1) ((Qnb hay).trans hq1) hp2 hq2,Yf (Zs hx).1,(Zs hx).2])
   have HP1:=Zh (Qjh (t:=toC N.ar l) (f:=frC N.ar l) (X:=(Qas N.ar l).take j) hp2);have HQ1:=Zh (Qhi (t:=toC N.ar l) (f:=frC N.ar l) (X:=(Qas N.ar l).take j) hq2);have hfl1:(((Qas N.ar l).take j).filter (fun a=>toC N.ar l a == (p:Int))).length≤j:=Yx (List.length_filter_le _ _) (List.length_take_le _ _);have hfl2:(((Qas N.ar l).take j).filter (fun a=>frC N.ar l a == (q:Int))).length≤j:=Yx (List.length_filter_le _ _) (List.length_take_le _ _);have k1:(0:Int)≤(j:Int):=by omega
   have k2:(j:Int)<(K:Int):=by omega
   have k3:(0:Int)≤(v:Int):=by omega
   have k4:(v:Int)<(n:Int):=by omega
   have k5:(0:Int)≤(u:Int):=by omega
   have k6:(u:Int)<(n:Int):=by omega
   have k7:(0:Int)≤(p:Int):=by omega
   have k8:(p:Int)<(M:Int):=by omega
   have k9:(0:Int)≤(q:Int):=by omega
   have k10:(q:Int)<(M:Int):=by omega
   have k11:(0:Int)≤(a:Int):=by omega
   have k12:(a:Int)<(m:Int):=by omega
   have k13:(0:Int)≤(i:Int):=by omega
   have k14:(i:Int)<(L:Int):=by omega
   have k15:(i:Int)+1-1=(i:Int):=by omega
   have wl:IntKind.i64.wrap (i:Int)=(i:Int):=IntWalk.i64_in _ (by omega)
   have HSX:=Zh (show ∀ V,Below wr.heap.size wr V→V.cell? ⟨w.heap.size,1,none⟩=some (.slice (some ⟨ab,ao,none⟩) m d)∧V.cell? ⟨w.heap.size+1,0,none⟩=some (.slice (some ⟨qb,qo,none⟩) L cq)∧V.cell? ⟨qb,qo+i,none⟩=some (.slice (some ⟨rb,ro,none⟩) n lc)∧V.cell? ⟨ab,ao+a*3,none⟩=some (.int .i64 u)∧V.cell? ⟨ab,ao+a*3+1,none⟩=some (.int .i64 v)∧V.cell? ⟨rb,ro+v,none⟩=some (.int .i64 p)∧V.cell? ⟨rb,ro+u,none⟩=some (.int .i64 q)∧V.cell? ⟨xb,xo+j,none⟩=some (.int .i64 a) from
    fun V hV=>⟨by rw [(hXr.below hV hXr.lt).cell];rfl,by rw [(hYr.below hV hYr.lt).cell];rfl,Zc hV (Zn _) hrow,Zc hV (Zn _) y1,Zc hV (Zn _) y2,Zc hV (Zn _) cp,Zc hV (Zn _) cq',Zc hV (Zn _) hcx⟩)
   have HCX:=Zh hx;have HXB:=Zh (show w2.heap.size<xb∧xb<w6.heap.size from ⟨by have:=HXlo.out xb rfl;omega,hxb6⟩)
   have HIV0:=Zh hI;have HXV0:=Zh hXj;have HWV0:=Zh hbl2w;clear hx hay hu0 hp1 hq1 hp3 hq3 cp cq' hrow y1 y2 y3 hXr hYr hcx hI hXj hbl2w hbww hc6 hxb6;generalize ((Qas N.ar l).take j).filter (fun a=>toC N.ar l a == (p:Int))=lp at *;generalize ((Qas N.ar l).take j).filter (fun a=>frC N.ar l a == (q:Int))=lq at *
   go_wp2_with fail
   refine wp_region_held_drew (S:=fun V=>Below wr.heap.size wr V) (by kernel_rfl) (Zr _ _).drew (fun _=>?_);refine tz 0 33 ?_;refine tz 1 34 ?_;refine tz 2 35 ?_;refine tz 3 36 ?_;refine tz 4 37 ?_;refine tz 5 38 ?_;refine tz 6 39 ?_;refine tz 7 40 ?_;refine tz 8 41 ?_;refine tz 9 42 ?_;refine tz 10 43 ?_;refine tz 11 44 ?_;refine tz 12 45 ?_;refine tz 13 46 ?_;refine tz 14 47 ?_;refine tz 15 48 ?_;refine tz 16 49 ?_;refine tz 17 10 ?_;refine Zd ?_
   go_wp2_with fail
   refine wp_region_held_drew (S:=fun V=>Below wr.heap.size wr V) (by kernel_rfl) (Zr _ _).drew.drew (fun _=>?_);refine tz 0 50 ?_;refine tz 1 51 ?_;refine tz 2 52 ?_;refine tz 3 53 ?_;refine tz 4 54 ?_;refine tz 5 55 ?_;refine tz 6 56 ?_;refine tz 7 57 ?_;refine tz 8 58 ?_;refine tz 9 59 ?_;refine tz 10 60 ?_;refine tz 11 61 ?_;refine tz 12 62 ?_;refine tz 13 63 ?_;refine tz 14 64 ?_;refine tz 15 65 ?_;refine tz 16 66 ?_;refine tz 17 11 ?_;refine Zd ?_;clear HSX;obtain ⟨V1,hV1⟩:∃ V1,V1=wr.drew.drew:=⟨_,rfl⟩;rw [←hV1];have hbV:Below wr.heap.size wr V1:=by rw [hV1];exact (Zr _ _).drew.drew
   have HIV:=Zh (HIV0.out.below hbV);have HXV:=Zh (HXV0.out.below hbV);have HWV:=Zh (Zb HWV0.out hbV);have HZV:=Zh (Yx hsz6 hbV.size);have HLX:=Zh HP1.out;clear hV1 hbV HIV0 HXV0 HWV0 hsz6
   go_wp2_with fail
   obtain ⟨Ac,cc,lc,ec,cwc,ffc,hoc⟩:=HIV.out.row (u:=p*2) (by omega);rw [HLX.out] at ec
   cases ec
   have hXt:=HXV.out.at_ hlt2;obtain ⟨xb',xo',x',ee,hx',hcx⟩:=hXt
   cases ee
   rw [HCX.out] at hx'
   cases hx'
   have hxA:∀ g,Qab Ac=some g→g≠xb∧g≠w2.heap.size:=fun g e=>by have h1:=(hoc.lt g e).1;have:=HXB.out;omega
   have hoz:=HWV.out.size;refine Qbl 15 (S:=fun V=>V.cell? ⟨w2.heap.size,p*2,none⟩=some (.slice Ac lp.length cc)∧V.cell? ⟨xb,xo+j,none⟩=some (.int .i64 (a:Int))) (by kernel_rfl) ⟨cwc,hcx⟩ (fun _=>?_);refine tkF 0 67 (h:=⟨_,tv,?_⟩);simp only [pE,List.set];refine tkF 1 68 (h:=⟨_,tv,?_⟩);simp only [pE,List.set];refine tkF 2 69 (h:=⟨_,tv,?_⟩);simp only [pE,List.set];refine tkF 3 70 (h:=⟨_,tv,?_⟩);simp only [pE,List.set];refine tkF 4 71 (h:=⟨_,tv,?_⟩);simp only [pE,List.set];refine tkF 5 72 (h:=⟨_,tv,?_⟩);simp only [pE,List.set];refine tkK 6 73 (h:=⟨_,tv,?_⟩);simp only [pE,List.set];refine tkF 7 74 (h:=⟨_,tv,?_⟩);simp only [pE,List.set];refine tkF 8 75 (h:=⟨_,tv,?_⟩);simp only [pE,List.set];refine tkF 9 76 (h:=⟨_,tv,?_⟩);simp only [pE,List.set];refine tkK 10 77 (h:=⟨_,tv,?_⟩);simp only [pE,List.set];obtain ⟨w9,hw9⟩:∃ w9,w9=(V1.alloc (.cells #[.int .i64 (a:Int)] 3)).drew:=⟨_,rfl⟩;have hb9:Below V1.heap.size V1 w9:=by rw [hw9];exact ((Zr _ _).alloc (Zn _) _).drew
   have hI9:=HIV.out.below hb9;have hX9:=HXV.out.below hb9;have hrd9:Rds w9 1 (some ⟨V1.heap.size,0,none⟩) 1 (Qag [(a:Int)]):=by rw [hw9];exact ((Blk.new V1 3 (Qcj [(a:Int)])).drew).rds rfl
   have hro9:=hoc.below hb9;have hrc9:=Zc hb9 (Zn _) cwc;have hcx9:=Zc hb9 (Zn _) hcx;have hwb9:=Zb HWV.out hb9;have hsz9:w6.heap.size≤w9.heap.size:=Yx HZV.out hb9.size;refine Qbs (i:=11) (by kernel_rfl) (by rfl) rfl (fun K hK=>?_);go_simp;rw [←hw9];refine hK.out _ _ ⟨hrc9,hcx9⟩ (fun _=>?_);clear hK K hw9;refine Qbs (i:=12) (by kernel_rfl) (by rfl) rfl (fun K hK=>?_);with_reducible refine Qay (some 79) rfl rfl (.tmp 73) (.tmp 78) 61 rfl 3 _ 1 8 Qbm underlying61 rfl (by omega) rfl rfl hro9 hrd9 (Qao _) (by omega) (by omega) hsz9 ?_
   intro RA' rc' w10 ho10 hg10 hat10
   have hcg:w10.cell? ⟨w2.heap.size,p*2,none⟩=some (.slice Ac lp.length cc):=by
    exact Kcf
   have hcy:w10.cell? ⟨xb,xo+j,none⟩=some (.int .i64 (a:Int)):=by
    exact Kck
   obtain ⟨xf,hfv,hff⟩:=hI9.cellG (u:=p*2) (by omega) hg10 (hro9.ne (by omega));refine hK.out _ _ ⟨hcg,hcy⟩ (fun _=>?_);clear hK K;simp only [Act.put,Yi,Yj,Yk];have hIF:=hI9.push HLX.out hrc9 ho10 hg10 hat10;have hbF:Below w2.heap.size w2 (w10.setCell ⟨w2.heap.size,p*2,none⟩ (.slice RA' (lp.length+1) rc')):=Zi (hwb9.grown hg10 (by omega) (fun g e=>by have:=(hro9.lt g e).1;omega)) (by omega)
   have hXF:RdI (w10.setCell ⟨w2.heap.size,p*2,none⟩ (.slice RA' (lp.length+1) rc')) (some ⟨xb,xo,none⟩) K (Qas N.ar l) :=
    (RdK.grownN hX9 hg10 (fun g hg e=>(hxA g e).1 (by cases hg;rfl))).far _ (fun e=>by have:=HXB.out;have e2:xb=w2.heap.size:=Yv e;omega)
   have hzF:w6.heap.size≤(w10.setCell ⟨w2.heap.size,p*2,none⟩ (.slice RA' (lp.length+1) rc')).heap.size:=by have:=hg10.size;simp [World.setCell];omega
   refine tkF 13 80 (h:=⟨_,tv,?_⟩);simp only [pE,List.set];refine tkF 14 81 (h:=⟨_,tv,?_⟩);simp only [pE,List.set];refine Qby (k:=15) (by kernel_rfl) rfl (fun K hK=>?_);go_simp;refine hK.out _ _ ?_;clear hK K;refine Qbt (by kernel_rfl) ?_ _;obtain ⟨V2,hVO⟩:∃ V2,V2=w10.setCell ⟨w2.heap.size,p*2,none⟩ (.slice RA' (lp.length+1) rc'):=⟨_,rfl⟩;rw [←hVO] at hIF hbF hXF hzF ⊢;clear hVO hcg hcy hfv hff ho10 hg10 hat10 hI9 hX9 hrd9 hro9 hrc9 hcx9 hwb9 hsz9 hb9 hxA hoz cwc ffc hoc hcx HIV HXV HZV HWV HLX;have HIV:=Zh hIF;have HXV:=Zh hXF;have HZV:=Zh hzF;have HWV:=Zh hbF;clear hIF hbF hXF hzF;have HLX:=Zh (show ((Qdu (toC N.ar l) (frC N.ar l) ((Qas N.ar l).take j) M).set (p*2) (lp ++[(a:Int)]))[q*2+1]?=some lq by rw [Yh (by omega)];exact HQ1.out)
   go_wp2_with fail
   obtain ⟨Ac,cc,lc,ec,cwc,ffc,hoc⟩:=HIV.out.row (u:=q*2+1) (by omega);rw [HLX.out] at ec
   cases ec
   have hXt:=HXV.out.at_ hlt2;obtain ⟨xb',xo',x',ee,hx',hcx⟩:=hXt
   cases ee
   rw [HCX.out] at hx'
   cases hx'
   have hxA:∀ g,Qab Ac=some g→g≠xb∧g≠w2.heap.size:=fun g e=>by have h1:=(hoc.lt g e).1;have:=HXB.out;omega
   have hoz:=HWV.out.size;refine Qbl 15 (S:=fun V=>V.cell? ⟨w2.heap.size,q*2+1,none⟩=some (.slice Ac lq.length cc)∧V.cell? ⟨xb,xo+j,none⟩=some (.int .i64 (a:Int))) (by kernel_rfl) ⟨cwc,hcx⟩ (fun _=>?_);refine tkF 0 82 (h:=⟨_,tv,?_⟩);simp only [pE,List.set];refine tkF 1 83 (h:=⟨_,tv,?_⟩);simp only [pE,List.set];refine tkF 2 84 (h:=⟨_,tv,?_⟩);simp only [pE,List.set];refine tkF 3 85 (h:=⟨_,tv,?_⟩);simp only [pE,List.set];refine tkF 4 86 (h:=⟨_,tv,?_⟩);simp only [pE,List.set];refine tkF 5 87 (h:=⟨_,tv,?_⟩);simp only [pE,List.set];refine tkK 6 88 (h:=⟨_,tv,?_⟩);simp only [pE,List.set];refine tkF 7 89 (h:=⟨_,tv,?_⟩);simp only [pE,List.set];refine tkF 8 90 (h:=⟨_,tv,?_⟩);simp only [pE,List.set];refine tkF 9 91 (h:=⟨_,tv,?_⟩);simp only [pE,List.set];refine tkK 10 92 (h:=⟨_,tv,?_⟩);simp only [pE,List.set];obtain ⟨w9,hw9⟩:∃ w9,w9=(V2.alloc (.cells #[.int .i64 (a:Int)] 3)).drew:=⟨_,rfl⟩;have hb9:Below V2.heap.size V2 w9:=by rw [hw9];exact ((Zr _ _).alloc (Zn _) _).drew
   have hI9:=HIV.out.below hb9;have hX9:=HXV.out.below hb9;have hrd9:Rds w9 1 (some ⟨V2.heap.size,0,none⟩) 1 (Qag [(a:Int)]):=by rw [hw9];exact ((Blk.new V2 3 (Qcj [(a:Int)])).drew).rds rfl
   have hro9:=hoc.below hb9;have hrc9:=Zc hb9 (Zn _) cwc;have hcx9:=Zc hb9 (Zn _) hcx;have hwb9:=Zb HWV.out hb9;have hsz9:w6.heap.size≤w9.heap.size:=Yx HZV.out hb9.size;refine Qbs (i:=11) (by kernel_rfl) (by rfl) rfl (fun K hK=>?_);go_simp;rw [←hw9];refine hK.out _ _ ⟨hrc9,hcx9⟩ (fun _=>?_);clear hK K hw9;refine Qbs (i:=12) (by kernel_rfl) (by rfl) rfl (fun K hK=>?_);with_reducible refine Qay (some 94) rfl rfl (.tmp 88) (.tmp 93) 61 rfl 3 _ 1 8 Qbm underlying61 rfl (by omega) rfl rfl hro9 hrd9 (Qao _) (by omega) (by omega) hsz9 ?_
   intro RA' rc' w10 ho10 hg10 hat10
   have hcg:w10.cell? ⟨w2.heap.size,q*2+1,none⟩=some (.slice Ac lq.length cc):=by
    exact Kcf
   have hcy:w10.cell? ⟨xb,xo+j,none⟩=some (.int .i64 (a:Int)):=by
    exact Kck
   obtain ⟨xf,hfv,hff⟩:=hI9.cellG (u:=q*2+1) (by omega) hg10 (hro9.ne (by omega));refine hK.out _ _ ⟨hcg,hcy⟩ (fun _=>?_);clear hK K;simp only [Act.put,Yi,Yj,Yk];have hIF:=hI9.push HLX.out hrc9 ho10 hg10 hat10;have hbF:Below w2.heap.size w2 (w10.setCell ⟨w2.heap.size,q*2+1,none⟩ (.slice RA' (lq.length+1) rc')):=Zi (hwb9.grown hg10 (by omega) (fun g e=>by have:=(hro9.lt g e).1;omega)) (by omega)
   have hXF:RdI (w10.setCell ⟨w2.heap.size,q*2+1,none⟩ (.slice RA' (lq.length+1) rc')) (some ⟨xb,xo,none⟩) K (Qas N.ar l) :=
    (RdK.grownN hX9 hg10 (fun g hg e=>(hxA g e).1 (by cases hg;rfl))).far _ (fun e=>by have:=HXB.out;have e2:xb=w2.heap.size:=Yv e;omega)
   have hzF:w6.heap.size≤(w10.setCell ⟨w2.heap.size,q*2+1,none⟩ (.slice RA' (lq.length+1) rc')).heap.size:=by have:=hg10.size;simp [World.setCell];omega
   refine tkF 13 95 (h:=⟨_,tv,?_⟩);simp only [pE,List.set];refine tkF 14 96 (h:=⟨_,tv,?_⟩);simp only [pE,List.set];refine Qby (k:=15) (by kernel_rfl) rfl (fun K hK=>?_);go_simp;refine hK.out _ _ ?_;clear hK K;refine Qbt (by kernel_rfl) ?_ _;obtain ⟨V3,hVO⟩:∃ V3,V3=w10.setCell ⟨w2.heap.size,q*2+1,none⟩ (.slice RA' (lq.length+1) rc'):=⟨_,rfl⟩;rw [←hVO] at hIF hbF hXF hzF ⊢;clear hVO hcg hcy hfv hff ho10 hg10 hat10 hI9 hX9 hrd9 hro9 hrc9 hcx9 hwb9 hsz9 hb9 hxA hoz cwc ffc hoc hcx HIV HXV HZV HWV HLX;have HIV:=Zh hIF;have HXV:=Zh hXF;have HZV:=Zh hzF;have HWV:=Zh hbF;clear hIF hbF hXF hzF;have hIF:=HIV.out;rw [←HNX.out] at hIF;have HIF:=Zh hIF;clear hIF HIV
   go_wp2_with fail
   go_roundw
   case rel=>exact ⟨HZV.out,HWV.out,j+1,by omega,by go_num,HXV.out,HIF.out⟩
   case measure=>simp [intOf];omega
end Go.Proofs.YtdheeddnkdhfeaaGreatDoor
