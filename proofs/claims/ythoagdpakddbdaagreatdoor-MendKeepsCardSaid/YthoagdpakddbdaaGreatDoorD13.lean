/- Parts of the proof: Go, Rw. -/
import Derived.Test.YthoagdpakddbdaaGreatDoorD1
import Derived.Test.YthoagdpakddbdaaGreatDoorD9
import Derived.Test.YthoagdpakddbdaaGreatDoorD10
import Derived.Test.YthoagdpakddbdaaGreatDoorD12
namespace Go.Proofs.YthoagdpakddbdaaGreatDoor
open Go.RowKit Go.Proofs.Tryz
attribute [local go_sem ↓] Go.wp_at_zero Go.wp_at_succ
theorem Qrt:(Tryz.prog.info? 105).map (fun i=>(i.zero,i.size,i.bytes))=some (some (.agg #[.slice none 0 0,.slice none 0 0]),2,48):=by kernel_rfl
theorem Qwk:(Tryz.prog.info? 158).map (fun i=>(i.zero,i.size,i.bytes))=some (some (.slice none 0 0),1,24):=by kernel_rfl
theorem Qww (a:Value)(n:Nat):madeCells #[a,a] n=Qbc a n:=by
 apply Array.ext'
 unfold madeCells Qbc
 apply List.ext_getElem?
 intro i;simp only [Array.toList_map,Array.toList_range,List.getElem?_map]
 rcases Nat.lt_or_ge i n with h|h
 · rw [List.getElem?_range h]
   rcases Nat.mod_two_eq_zero_or_one i with h0|h0 <;> simp [h0,h]
 · rw [List.getElem?_eq_none (by simpa using h),List.getElem?_eq_none (by simpa using h)]
   rfl
theorem Qoy (k:Nat)(hk:k≤1000000)(W:World):(Instr.makeSlice 158 (.int .i64 (k:Int)) (.int .i64 (k:Int))).run prog W=.ok (.slice (some ⟨W.heap.size,0,none⟩) k k) (W.alloc (.cells (Qbc (.slice none 0 0) (k*2)) 105)):=by
 obtain ⟨i,hi,hz,hs,hbb⟩:=info_parts Qrt
 have hb':(i.bytes:Int)*(k:Int)≤281474976710656:=by
  rw [hbb];omega
 have hr:=run_make (P:=prog) W 158 105 i _ underlying158 hi hz .i64 .i64 k k (by omega) (by omega) hb' (by omega);simp only [Int.toNat_natCast] at hr;rw [hs,show (Value.agg #[.slice none 0 0,.slice none 0 0]).cells=#[.slice none 0 0,.slice none 0 0] from rfl,Qww] at hr
 exact hr
theorem Qmp (n:Nat)(hn:n≤1000000)(W:World):(Instr.makeSlice 154 (.int .i64 (n:Int)) (.int .i64 (n:Int))).run prog W=.ok (.slice (some ⟨W.heap.size,0,none⟩) n n) (W.alloc (.cells (Qbc (.slice none 0 0) n) 158)) :=
 Qec (P:=prog) 154 158 (.slice none 0 0) 24 Qwk underlying154 rfl n (by omega) (by omega) .i64 .i64 W
def GtO (W:World)(B lv L:Nat)(ar:List Tri) (ls:List (List Int)) (k:Nat):Prop :=
 ∃ cs,Blk W lv 158 cs∧cs.size=L∧∀ (i:Nat) (l:List Int),i<k→ls[i]?=some l→∃ (A:Option Addr) (c:Nat),cs[i]?=some (.slice A (Qai l).toNat c)∧RdC (msk W (fun b=>B≤b∧b<W.heap.size)) A (Qai l).toNat (gateRow ar l)∧(Qai l).toNat≤c∧c≤9223372036854775807
theorem GtO.start {W:World}{B lv L:Nat}{ar:List Tri} {ls:List (List Int)} {cs:Array Value} (h:Blk W lv 158 cs) (hs:cs.size=L):GtO W B lv L ar ls 0:=⟨cs,h,hs,fun _ _ hi=>absurd hi (Nat.not_lt_zero _)⟩
theorem GtO.lt {W:World}{B lv L k:Nat}{ar:List Tri} {ls:List (List Int)} (h:GtO W B lv L ar ls k):lv<W.heap.size:=by
 obtain ⟨cs,h1,_⟩:=h;exact h1.lt
theorem GtO.below {W W':World}{B lv L k:Nat}{ar:List Tri} {ls:List (List Int)} (h:GtO W B lv L ar ls k) (hb:Below W.heap.size W W'):GtO W' B lv L ar ls k:=by
 obtain ⟨cs,h1,h2,h3⟩:=h;refine ⟨cs,h1.below hb h1.lt,h2,fun i l hi hl=>?_⟩;obtain ⟨A,c,k1,k2,k3⟩:=h3 i l hi hl;exact ⟨A,c,k1,k2.le (Le.trans (Qaz.msk (Qaz.below hb)) (Qbd (fun b hb'=>⟨hb'.1,Nat.lt_of_lt_of_le hb'.2 hb.size⟩))),k3⟩
theorem GtO.cell {W:World}{B lv L k i:Nat}{ar:List Tri} {ls:List (List Int)} (h:GtO W B lv L ar ls k) (hi:i<L):(∃ v,W.cell? ⟨lv,i,none⟩=some v)∧W.frozen? ⟨lv,i,none⟩=false:=by
 obtain ⟨cs,h1,h2,h3⟩:=h;exact ⟨⟨_,by rw [h1.cell];exact Array.getElem?_eq_getElem (by omega)⟩,h1.frozen i⟩
theorem GtO.next {W:World}{B lv L k c:Nat}{ar:List Tri} {ls:List (List Int)} {l:List Int} {A:Option Addr} (h:GtO W B lv L ar ls k) (hk:k<L) (hB:lv<B) (hl:ls[k]?=some l)
 (hr:RdC (msk W (fun b=>B≤b∧b<W.heap.size)) A (Qai l).toNat (gateRow ar l)) (h1:(Qai l).toNat≤c) (h2:c≤9223372036854775807):GtO (W.setCell ⟨lv,k,none⟩ (.slice A (Qai l).toNat c)) B lv L ar ls (k+1):=by
 obtain ⟨cs,g1,g2,g3⟩:=h;have hz:(W.setCell ⟨lv,k,none⟩ (.slice A (Qai l).toNat c)).heap.size=W.heap.size:=by simp [World.setCell]
 have hle:Le (msk W (fun b=>B≤b∧b<W.heap.size)) (msk (W.setCell ⟨lv,k,none⟩ (.slice A (Qai l).toNat c)) (fun b=>B≤b∧b<(W.setCell ⟨lv,k,none⟩ (.slice A (Qai l).toNat c)).heap.size)):=by
  rw [hz];exact Qaz.msk (Qaz.set W lv k _ (fun hG=>by omega))
 refine ⟨_,g1.set_ k _,by simpa using g2,fun i l' hi hl'=>?_⟩
 by_cases e:i=k
 · subst e
   rw [hl] at hl'
   cases hl'
   exact ⟨A,c,Array.getElem?_setIfInBounds_self_of_lt (by omega),hr.le hle,h1,h2⟩
 · obtain ⟨A',c',k1,k2,k3⟩:=g3 i l' (by omega) hl'
   exact ⟨A',c',by rw [Array.getElem?_setIfInBounds_ne (by omega)];exact k1,k2.le hle,k3⟩
theorem GtO.rdG {W:World}{B lv L:Nat}{G:Nat→Prop}{ar:List Tri} {ls:List (List Int)} (h:GtO W B lv L ar ls L) (hl:ls.length=L) (hg:G lv) (hG:∀ b,B≤b→b<W.heap.size→G b):RdG (msk W G) (some ⟨lv,0,none⟩) L (gatesOf ar ls):=by
 obtain ⟨cs,h1,h2,h3⟩:=h;refine ⟨by simp [gatesOf,hl],fun i row hr=>?_⟩;unfold gatesOf at hr;rw [List.getElem?_map] at hr
 cases e:ls[i]? with
 | none=>rw [e] at hr;cases hr
 | some l =>
  rw [e] at hr
  cases hr
  obtain ⟨A,c,k1,k2,k3⟩:=h3 i l (by rw [←hl];exact (Zs e).1) e;exact ⟨lv,0,A,_,c,rfl,Qar.2 ⟨hg,by rw [Nat.zero_add,h1.cell];exact k1⟩,k2.le (Qbd (fun b hb=>hG b hb.1 hb.2)),k3⟩
theorem IkG.rdCM {t:TypeId}{W:World}{B g:Nat}{G:Nat→Prop}{ar:List Tri}{l:List Int} (h:IkG t W B g ((Qai l).toNat*2) (Qdn (toC ar l) (frC ar l) (Qao ar l) (Qai l).toNat)) (hg:G g) (hB:∀ b,B≤b→b<W.heap.size→G b):RdC (msk W G) (some ⟨g,0,none⟩) (Qai l).toNat (gateRow ar l):=by
 refine ⟨Qan ar l,fun c x hx=>?_⟩;have hc:c<(Qai l).toNat:=by rw [←Qan ar l];exact (Zs hx).1
 rw [Qcq hc] at hx
 cases hx
 obtain ⟨A1,c1,l1,e1,e2,_,e4⟩:=h.row (u:=c*2) (by omega);obtain ⟨A2,c2,l2,d1,d2,_,d4⟩:=h.row (u:=c*2+1) (by omega);rw [Qiy hc] at e1;rw [Qhn hc] at d1
 cases e1
 cases d1
 exact ⟨g,0,A1,_,c1,A2,_,c2,rfl,Qar.2 ⟨hg,by rw [Nat.zero_add];exact e2⟩,(e4.rds.rdI).msk (fun b hb=>hB b (e4.lt b hb).1 (e4.lt b hb).2),Qar.2 ⟨hg,by rw [Nat.zero_add];exact d2⟩,(d4.rds.rdI).msk (fun b hb=>hB b (d4.lt b hb).1 (d4.lt b hb).2),⟨e4.cap,e4.capMax⟩,d4.cap,d4.capMax⟩
theorem Qhe {n:Nat}{l:List Int}(h:Qfb n l){v:Nat}(hv:v<n):∃ c:Nat,Qaf l (v:Int)=c∧c<(Qai l).toNat∧l[v]?=some (c:Int):=by
 obtain ⟨x,e⟩:∃ x,l[v]?=some x:=⟨_,Zg (by rw [h.len];exact hv)⟩;have h0:=h.lo _ (Zm e);have h1:=Qmo (Zm e);refine ⟨x.toNat,?_,by omega,by rw [e];congr 1;omega⟩;rw [Qbk e];omega
set_option maxHeartbeats 2000000 in
set_option maxRecDepth 20000 in
theorem Qxb (g:Nat)(N:Qaj)(Q:Option Addr)(L cq n:Nat) (ls:List (List Int)) (w:World) (h:Qgp w g N) (hN:Qau N) (hq:RdT w Q L ls) (hP:Qcg n ls) (hn:N.vs.length=n) :
 Calls prog 76 #[.pointer (some ⟨g,0,none⟩),.agg #[.slice Q L cq]] w fun e w'=>∃ A,e=.returned (.slice A L L)∧RdG (msk w' (fun b=>w.heap.size≤b∧b<w'.heap.size)) A L (gatesOf N.ar ls)∧Below w.heap.size w w':=by
 have HG:=Zh h;have HN:=Zh hN;have HT:=Zh hq;have HP:=Zh hP;have HVN:=Zh hn;have hn4:n≤4096:=by rw [←hn];exact hN.lv
 have hm:N.ar.length≤16384:=hN.la;have HMM:=Zh hm;have l6:L≤6:=by rw [←hq.1];exact hP.l6
 have hmk:=Qmp L (by omega);clear h hN hq hP hn hm
 go_enter func76,ntmps76
 go_wp2_with fail
 (refine Qag ?_;intro w1 hw1)
 have hb1:Below w.heap.size w w1:=by rw [hw1];exact Qae
 have hQ:Blk w1 w.heap.size 89 #[.slice Q L cq]:=by rw [hw1];exact Qay
 clear hw1
 have HSX:=Zh (show ∀ V,Below w1.heap.size w1 V→V.cell? ⟨w.heap.size,0,none⟩=some (.slice Q L cq) from fun V hV=>by
  have:=(hQ.below hV hQ.lt).cell 0
  simpa using this)
 refine wp_region_held_drew (S:=fun V=>Below w1.heap.size w1 V) (by kernel_rfl) (Zr _ _).drew (fun _=>?_);refine tz 0 13 ?_;refine tz 2 15 ?_;refine Zk 1 (fun K hK=>?_);go_simp;with_reducible refine (Qmf g N _ (HG.out.below (show Below w.heap.size w w1.drew from Qae))).mono ?_
 rintro e w' ⟨rfl,rfl⟩;rw [HVN.out]
 go_wp2_with fail
 refine hK.out _ _ (Zr _ _).drew (fun _=>?_);clear hK K;refine Zk 3 (fun K hK=>?_);go_simp;with_reducible refine (Qis Q n L cq ls _ (HT.out.below (show Below w.heap.size w w1.drew from Qae)) HP.out hn4).mono ?_
 rintro e w2 ⟨rfl,hb2⟩;have hb12:Below w1.heap.size w1 w2:=Zb Qae hb2;clear hb2
 go_wp2_with fail
 refine hK.out _ _ hb12 (fun _=>?_);clear hK K;refine tz 4 17 ?_;refine Zd ?_;have q0:=HSX.out w2 hb12;have hQ2:=hQ.below hb12 hQ.lt;have hbw2:=Zb hb1 hb12;clear hQ;have q0a:=fun o=>Zc (show Below w2.heap.size w2 (w2.alloc o) from Qae) (Zn _) q0
 go_wp2_with fail
 (refine Qag ?_;intro w3 hw3)
 have hb23:Below w2.heap.size w2 w3:=by rw [hw3];exact Qae
 have hQ3:=hQ2.below hb23 hQ2.lt;have hG3:GtO w3 (w2.heap.size+1) w2.heap.size L N.ar ls 0:=by rw [hw3];exact GtO.start (Blk.new _ _ _) (by simp [Qbc])
 have hz3:w2.heap.size+1≤w3.heap.size:=by rw [hw3];simp
 have hb3:=Zb hbw2 hb23;have hz2:w.heap.size+1≤w2.heap.size:=by have:=hQ2.lt;omega
 have hzw:=hbw2.size;clear hw3 hb23 hQ2 q0 q0a hmk hb12 HSX
 go_loopw [25] (fun q W=>w2.heap.size+1≤W.heap.size∧Below w.heap.size w W∧Blk W w.heap.size 89 #[.slice Q L cq]∧∃ i:Nat,i≤L∧q=.int .i64 i∧GtO W (w2.heap.size+1) w2.heap.size L N.ar ls i) (fun q _=>L-(intOf q).toNat)
 case atStart=>exact ⟨hz3,hb3,hQ3,0,Nat.zero_le _,rfl,hG3⟩
 case round =>
  clear hz3 hb3 hQ3 hG3;obtain ⟨hsz,hbl,hQ,i,hi,rfl,hGt⟩:=hrel;have q0:=hQ.cell 0;simp only [List.getElem?_toArray,List.getElem?_cons_zero] at q0
  by_cases hlt:i<L
  · obtain ⟨b,o,A,m,c,l,rfl,hl,hc,hr,q1,q2⟩:=HT.out.at_ hlt
    have hlo:=HP.out.lvl l (Zm hl);obtain rfl:n=m:=by rw [←hr.1];exact hlo.len.symm
    have hcc:=Zc hbl (Zn _) hc;have hM0:=Qbt l;have hM1:=Qbp (l:=l) (n:=(n:Int)) (fun x hx=>hlo.hi x hx) (by omega);obtain ⟨M,hM⟩:∃ M:Nat,Qai l=M:=⟨(Qai l).toNat,by omega⟩;have HCN:=Zh (show ∀ V,Below w.heap.size w V→Calls prog 115 #[.agg #[.slice (some ⟨b,o,none⟩) L cq],.int .i64 ((i:Int)+1)] V fun e w'=>e=.returned (.int .i64 M)∧Below V.heap.size V w' from fun V hV=>hM▸count_ok _ L cq i ls l V (HT.out.below hV) hl (by omega) (fun x hx=>⟨hlo.lo x hx,by have:=hlo.hi x hx;omega⟩))
    have HCR:=Zh (show ∀ V,Below w.heap.size w V→Calls prog 116 #[.pointer (some ⟨g,0,none⟩),.agg #[.slice (some ⟨b,o,none⟩) L cq],.int .i64 ((i:Int)+1)] V fun e w'=>∃ A c,e=.returned (.slice A (Qao N.ar l).length c)∧RdI w' A (Qao N.ar l).length (Qao N.ar l)∧(∀ b,Qab A=some b→V.heap.size≤b∧b<w'.heap.size)∧Below V.heap.size V w' from fun V hV=>cross_ok g N _ L cq i n ls l V (HG.out.below hV) HN.out (HT.out.below hV) hl (by omega) hlo HVN.out)
    have HLO:=Zh hlo;have HLL:=Zh hl;have HR:=Zh hr;have HMM2:=Zh hM;rw [hM] at hM0 hM1;have hM3:M≤1000000:=by omega
    have hmkc:=Qoy M hM3;have i1:(0:Int)≤(i:Int):=by omega
    have i2:(i:Int)<(L:Int):=by omega
    clear hr hlo hl hc q1 hM
    go_wp2_with fail
    with_reducible refine (HCN.out wr hbl).mono ?_
    rintro e w4 ⟨rfl,hb4⟩;have q0':=Zc hb4 (Zn _) q0;have q0b:=fun o=>Zc (show Below w4.heap.size w4 (w4.alloc o) from Qae) (Zn _) q0'
    have hbw4:=Zb hbl hb4
    go_wp2_with fail
    (refine Qac ?_;intro w5 hw5)
    have hb45:Below w4.heap.size w4 w5:=by rw [hw5];exact Qae
    have hC5:Blk w5 w4.heap.size 105 (Qbc (.slice none 0 0) (M*2)):=by rw [hw5];exact Blk.new _ _ _
    clear hw5 q0' q0b hmkc;have hbr5:Below wr.heap.size wr w5:=Zb hb4 hb45;have hbw5:=Zb hbw4 hb45;have hz45:w4.heap.size+1≤w5.heap.size:=by have:=hC5.lt;omega
    have hzr4:=hb4.size;with_reducible refine (HCR.out w5 hbw5).mono ?_
    rintro e w6 ⟨AX,cX,rfl,hX,hXl,hb6⟩;have hbr6:Below wr.heap.size wr w6:=Zb hbr5 hb6;have hbw6:=Zb hbw5 hb6
    have hI6:IkG 105 w6 w6.heap.size w4.heap.size (M*2) (Qdn (toC N.ar l) (frC N.ar l) ((Qao N.ar l).take 0) M):=by
     rw [List.take_zero,Qoq];exact IkG.start (by have:=hb6.size;omega) (hC5.below hb6 hC5.lt)
    have HXL:=Zh (show ∀ x∈Qao N.ar l,∃ (a:Nat) (y:Tri),x=(a:Int)∧N.ar[a]?=some y from fun x hx=>by
     obtain ⟨a,y,e1,e2,_⟩:=Qrx.1 hx;exact ⟨a,y,e1,e2⟩)
    have hXm:(Qao N.ar l).length≤16384:=Nat.le_trans (Qhi _ _) HMM.out;have hz56:=hb6.size;clear hC5 hb4 hb45 hb6 hbw4 hbw5 hbr5;generalize hKK:(Qao N.ar l).length=K at *;have HKK:=Zh hKK;clear hKK
    go_wp2_with fail
    obtain ⟨wo,hwo⟩:∃ wo,wo=wr:=⟨_,rfl⟩;subst hwo
    go_loopw [41] (fun q W=>w6.heap.size≤W.heap.size∧Below w.heap.size w W∧Below wo.heap.size wo W∧∃ j:Nat,j≤K∧q=.int .i64 j∧RdI W AX K (Qao N.ar l)∧IkG 105 W w6.heap.size w4.heap.size (M*2) (Qdn (toC N.ar l) (frC N.ar l) ((Qao N.ar l).take j) M)) (fun q _=>K-(intOf q).toNat)
    case atStart=>exact ⟨Zn _,hbw6,hbr6,0,Nat.zero_le _,rfl,hX,hI6⟩
    case round =>
     clear hbw6 hbr6 hX hI6;obtain ⟨hsz6,hblw,hblo,j,hj,rfl,hX,hI⟩:=hrel
     by_cases hlt2:j<K
     · obtain ⟨xb,xo,x,rfl,hx,hcx⟩:=hX.at_ hlt2
       obtain ⟨a,⟨u,v,z⟩,rfl,hay⟩:=HXL.out x (Zm hx);have hu0:=HN.out.arcs _ (Zm hay);have f0:=hu0.f0;have f1:=hu0.f1;have g0:=hu0.g0;have g1:=hu0.g1;simp only at f0 f1 g0 g1;rw [HVN.out] at f1 g1;obtain ⟨u,rfl⟩:∃ u':Nat,u=u':=⟨u.toNat,by omega⟩;obtain ⟨v,rfl⟩:∃ v':Nat,v=v':=⟨v.toNat,by omega⟩;obtain ⟨p,hp1,hp2,hp3⟩:=Qhe HLO.out (v:=v) (by omega);obtain ⟨q,hq1,hq2,hq3⟩:=Qhe HLO.out (v:=u) (by omega);rw [HMM2.out,Int.toNat_natCast] at hp2 hq2;obtain ⟨rb,ro,_,rfl,e1,cp⟩:=HR.out.at_ (i:=v) (by omega);rw [hp3] at e1
       cases e1
       obtain ⟨rb',ro',_,e2,e1,cq'⟩:=HR.out.at_ (i:=u) (by omega);rw [hq3] at e1
       cases e1
       cases e2
       have cp2:=Zc hblw (Zn _) cp;have cq2:=Zc hblw (Zn _) cq';have HTO:=Zh (show ∀ n,Calls prog 57 #[.pointer (some ⟨g,0,none⟩),.int .i64 a] (wr.drewN n) fun e w'=>e=.returned (.int .i64 (v:Int))∧wr.drewN n=w' from fun n=>Qnx g a N _ _ (HG.out.below (Qas hblw n)) hay)
       have HFR:=Zh (show ∀ n,Calls prog 56 #[.pointer (some ⟨g,0,none⟩),.int .i64 a] (wr.drewN n) fun e w'=>e=.returned (.int .i64 (u:Int))∧wr.drewN n=w' from fun n=>Qiw g a N _ _ (HG.out.below (Qas hblw n)) hay)
       have HNX:=Zh (show Qdn (toC N.ar l) (frC N.ar l) ((Qao N.ar l).take (j+1)) M=((Qdn (toC N.ar l) (frC N.ar l) ((Qao N.ar l).take j) M).set (p*2) (((Qao N.ar l).take j).filter (fun a=>toC N.ar l a == (p:Int)) ++[(a:Int)])).set (q*2+1) (((Qao N.ar l).take j).filter (fun a=>frC N.ar l a == (q:Int)) ++[(a:Int)]) by
        rw [Qll ((Qmv hay).trans hp1) ((Qne hay).trans hq1) hp2 hq2,List.take_succ_eq_append_getElem (Zs hx).1,(Zs hx).2])
       have HP1:=Zh (Qiy (t:=toC N.ar l) (f:=frC N.ar l) (X:=(Qao N.ar l).take j) hp2);have HQ1:=Zh (Qhn (t:=toC N.ar l) (f:=frC N.ar l) (X:=(Qao N.ar l).take j) hq2);have hfl1:(((Qao N.ar l).take j).filter (fun a=>toC N.ar l a == (p:Int))).length≤j:=Nat.le_trans (List.length_filter_le _ _) (List.length_take_le _ _);have hfl2:(((Qao N.ar l).take j).filter (fun a=>frC N.ar l a == (q:Int))).length≤j:=Nat.le_trans (List.length_filter_le _ _) (List.length_take_le _ _);have k1:(0:Int)≤(j:Int):=by omega
       have k2:(j:Int)<(K:Int):=by omega
       have k3:(0:Int)≤(v:Int):=by omega
       have k4:(v:Int)<(n:Int):=by omega
       have k5:(0:Int)≤(u:Int):=by omega
       have k6:(u:Int)<(n:Int):=by omega
       have k7:(0:Int)≤(p:Int):=by omega
       have k8:(p:Int)<(M:Int):=by omega
       have k9:(0:Int)≤(q:Int):=by omega
       have k10:(q:Int)<(M:Int):=by omega
       clear hx hay hu0 hp1 hq1 hp3 hq3 cp cq';generalize ((Qao N.ar l).take j).filter (fun a=>toC N.ar l a == (p:Int))=lp at *;generalize ((Qao N.ar l).take j).filter (fun a=>frC N.ar l a == (q:Int))=lq at *
       go_wp2_with fail
       go_quiet ((first|(go_at_call 57;exact Qfs (HTO.out _))|(go_at_call 56;exact Qfs (HFR.out _))))
       obtain ⟨W1,hW1⟩:∃ W1,W1=wr.drewN nq:=⟨_,rfl⟩;rw [←hW1];have hbd:Below wr.heap.size wr W1:=by rw [hW1];exact Qas (Zr _ _) _
       have hIW1:=hI.below hbd;have hXW1:=hX.below hbd;have hwW1:=Zb hblw hbd;have hoW1:=Zb hblo hbd;have hzW1:w6.heap.size≤W1.heap.size:=Nat.le_trans hsz6 hbd.size;have hqW1:=hIW1.lt;clear hW1 hbd hI hX hcx cp2 cq2;have hrW1:Below W1.heap.size W1 (W1.alloc (.cells #[.int .i64 (a:Int)] 3)):=Qae;have hIA:=hIW1.below hrW1;obtain ⟨Ac,cc,lc,ec,cwc,ffc,hoc⟩:=hIA.row (u:=p*2) (by omega);rw [HP1.out] at ec
       cases ec
       have cw:W1.cell? ⟨w4.heap.size,p*2,none⟩=some (.slice Ac lp.length cc):=by rw [←hrW1.cell (p:=⟨w4.heap.size,p*2,none⟩) (by simp only;omega)];exact cwc
       have hrA:Rds (W1.alloc (.cells #[.int .i64 (a:Int)] 3)) 1 (some ⟨W1.heap.size,0,none⟩) 1 (Qad [(a:Int)]):=(Blk.new W1 3 (Qcm [(a:Int)])).rds rfl;have hXA:=hXW1.below hrW1;have hwA:=Zb hwW1 hrW1;have hoA:=Zb hoW1 hrW1;have hzA:w6.heap.size≤(W1.alloc (.cells #[.int .i64 (a:Int)] 3)).heap.size:=Nat.le_trans hzW1 hrW1.size;have HXb:=Zh (show ∀ g,Qab (some ⟨xb,xo,none⟩)=some g→Qab Ac≠some g from fun g hg e=>by have h1:=(hoc.lt g e).1;have h2:=hXl g hg;omega)
       have HXc:=Zh (show Qab (some ⟨xb,xo,none⟩)≠some w4.heap.size from fun e=>by have h2:=hXl _ e;omega)
       go_wp2_with (at_builtin;with_reducible refine Qap rfl (.tmp 65) (.tmp 67) 93 rfl 3 _ 1 8 Qaw underlying93 rfl (by omega) rfl rfl hoc hrA (Qah _) (by omega) (by omega) hzA ?_)
       intro A' c' w' hown' hg hat;obtain ⟨xf,hfv,hff⟩:=hIA.cellG (u:=p*2) (by omega) hg (hoc.ne (by omega));have hz':=hg.size;obtain ⟨W2,hWW2⟩:∃ W2,W2=w'.setCell ⟨w4.heap.size,p*2,none⟩ (.slice A' (lp.length+1) c'):=⟨_,rfl⟩;have hIW2:=hIA.push (HP1.out) cwc hown' hg (by simpa using hat);rw [←hWW2] at hIW2
       have hXW2:RdI W2 (some ⟨xb,xo,none⟩) K (Qao N.ar l):=by
        rw [hWW2];exact (RdK.grownN hXA hg HXb.out).far _ HXc.out
       have hwW2:Below w.heap.size w W2:=by rw [hWW2];exact (Bel.grownOwn hwA hg (hoc.mono (by omega)) (by omega)).setCell (by simp only;omega) _
       have hoW2:Below wo.heap.size wo W2:=by rw [hWW2];exact (Bel.grownOwn hoA hg (hoc.mono (by omega)) (by omega)).setCell (by simp only;omega) _
       have hzW2:w6.heap.size≤W2.heap.size:=by rw [hWW2];simp [World.setCell];omega
       have hqW2:=hIW2.lt;clear hIA hoc cwc ffc hrA hXA hwA hoA hown' hg hat HXb HXc hIW1 hXW1 hrW1 hzA;have HQ2:=Zh (show ((Qdn (toC N.ar l) (frC N.ar l) ((Qao N.ar l).take j) M).set (p*2) (lp ++[(a:Int)]))[q*2+1]?=some lq by rw [List.getElem?_set_ne (by omega)];exact HQ1.out)
       have hrW2:Below W2.heap.size W2 (W2.alloc (.cells #[.int .i64 (a:Int)] 3)):=Qae;have hIA:=hIW2.below hrW2;obtain ⟨Ac,cc,lc,ec,cwc,ffc,hoc⟩:=hIA.row (u:=q*2+1) (by omega);rw [HQ2.out] at ec
       cases ec
       have cw:W2.cell? ⟨w4.heap.size,q*2+1,none⟩=some (.slice Ac lq.length cc):=by rw [←hrW2.cell (p:=⟨w4.heap.size,q*2+1,none⟩) (by simp only;omega)];exact cwc
       have hrA:Rds (W2.alloc (.cells #[.int .i64 (a:Int)] 3)) 1 (some ⟨W2.heap.size,0,none⟩) 1 (Qad [(a:Int)]):=(Blk.new W2 3 (Qcm [(a:Int)])).rds rfl;have hXA:=hXW2.below hrW2;have hwA:=Zb hwW2 hrW2;have hoA:=Zb hoW2 hrW2;have hzA:w6.heap.size≤(W2.alloc (.cells #[.int .i64 (a:Int)] 3)).heap.size:=Nat.le_trans hzW2 hrW2.size;have HXb:=Zh (show ∀ g,Qab (some ⟨xb,xo,none⟩)=some g→Qab Ac≠some g from fun g hg e=>by have h1:=(hoc.lt g e).1;have h2:=hXl g hg;omega)
       have HXc:=Zh (show Qab (some ⟨xb,xo,none⟩)≠some w4.heap.size from fun e=>by have h2:=hXl _ e;omega)
       have cwE:=cw;rw [hWW2] at cwE;rw [show W2.heap.size=w'.heap.size by rw [hWW2];simp [World.setCell]] at hrA
       have HWW2:=Zh hWW2;clear cw hWW2
       go_wp2_with (at_builtin;rw [←HWW2.out];with_reducible refine Qap rfl (.tmp 75) (.tmp 77) 93 rfl 3 _ 1 8 Qaw underlying93 rfl (by omega) rfl rfl hoc hrA (Qah _) (by omega) (by omega) hzA ?_)
       intro A' c' w' hown' hg hat;obtain ⟨xf,hfv,hff⟩:=hIA.cellG (u:=q*2+1) (by omega) hg (hoc.ne (by omega));have hz':=hg.size;obtain ⟨W3,hWW3⟩:∃ W3,W3=w'.setCell ⟨w4.heap.size,q*2+1,none⟩ (.slice A' (lq.length+1) c'):=⟨_,rfl⟩;have hIW3:=hIA.push (HQ2.out) cwc hown' hg (by simpa using hat);rw [←hWW3] at hIW3
       have hXW3:RdI W3 (some ⟨xb,xo,none⟩) K (Qao N.ar l):=by
        rw [hWW3];exact (RdK.grownN hXA hg HXb.out).far _ HXc.out
       have hwW3:Below w.heap.size w W3:=by rw [hWW3];exact (Bel.grownOwn hwA hg (hoc.mono (by omega)) (by omega)).setCell (by simp only;omega) _
       have hoW3:Below wo.heap.size wo W3:=by rw [hWW3];exact (Bel.grownOwn hoA hg (hoc.mono (by omega)) (by omega)).setCell (by simp only;omega) _
       have hzW3:w6.heap.size≤W3.heap.size:=by rw [hWW3];simp [World.setCell];omega
       have hqW3:=hIW3.lt;clear hIA hoc cwc ffc hrA hXA hwA hoA hown' hg hat HXb HXc hIW2 hXW2 hrW2 hzA
       go_wp2_with fail
       rw [←hWW3];clear hWW3 hfv hff;rw [←HNX.out] at hIW3
       go_roundw
       case rel=>exact ⟨hzW3,hwW3,hoW3,j+1,by omega,by go_num,hXW3,hIW3⟩
       case measure=>simp [intOf];omega
     · obtain rfl:K=j:=by omega
       rw [List.take_of_length_le (by rw [HKK.out];exact Zn _)] at hI;have hGr:=hGt.below hblo;have hQr:=hQ.below hblo hQ.lt;have hbz:=hblo.size
       have HRC:=Zh (show RdC (msk wr (fun b=>w2.heap.size+1≤b∧b<wr.heap.size)) (some ⟨w4.heap.size,0,none⟩) (Qai l).toNat (gateRow N.ar l) from by
        have hI':IkG 105 wr w6.heap.size w4.heap.size ((Qai l).toNat*2) (Qdn (toC N.ar l) (frC N.ar l) (Qao N.ar l) (Qai l).toNat):=by
         rw [HMM2.out,Int.toNat_natCast];exact hI
        exact hI'.rdCM ⟨by omega,hI.lt⟩ (fun b h1 h2=>⟨by omega,h2⟩))
       obtain ⟨⟨vx,cx⟩,fx⟩:=hGr.cell hlt
       have HGN:=Zh (show GtO (wr.setCell ⟨w2.heap.size,i,none⟩ (.slice (some ⟨w4.heap.size,0,none⟩) M M)) (w2.heap.size+1) w2.heap.size L N.ar ls (i+1) from by
        have:=hGr.next (c:=M) hlt (by omega) HLL.out HRC.out (by rw [HMM2.out];simp) (by omega);rw [HMM2.out,Int.toNat_natCast] at this;exact this)
       have HQN:=Zh (hQr.far_ (b:=w2.heap.size) (o:=i) (by omega) (.slice (some ⟨w4.heap.size,0,none⟩) M M));have HBN:=Zh (show Below w.heap.size w (wr.setCell ⟨w2.heap.size,i,none⟩ (.slice (some ⟨w4.heap.size,0,none⟩) M M)) from hblw.setCell (by simp only;omega) _)
       clear hI hX hGr hQr HRC hblw hblo hGt hQ hbl q0 hcc
       go_wp2_with fail
       go_roundw
       case rel=>exact ⟨by simp [World.setCell];omega,HBN.out,HQN.out,i+1,by omega,by go_num,HGN.out⟩
       case measure=>simp [intOf];omega
  · obtain rfl:L=i:=by omega
    have HR:=Zh (hGt.rdG (G:=fun b=>w.heap.size≤b∧b<wr.heap.size) HT.out.1 ⟨by omega,hGt.lt⟩ (fun b h1 h2=>⟨by omega,h2⟩));clear hGt
    go_wp2_with fail
    go_ret
    exact ⟨_,rfl,HR.out,hbl⟩
def RwL (W:World)(B:Nat)(A:Option Addr)(n c:Nat)(xs:List Value) (ls:List (List Int)):Prop :=
 Own W B 93 1 A n c xs∧ls.length=n∧∀ (j:Nat) (l:List Int),ls[j]?=some l→∃ (A2:Option Addr) (n2 c2:Nat),xs[j]?=some (Value.slice A2 n2 c2)∧RdI W A2 n2 l∧(∀ g,Qab A2=some g→B≤g∧g<W.heap.size∧Qab A≠some g)∧n2≤c2∧c2≤9223372036854775807
theorem RwL.nil (W:World)(B:Nat):RwL W B none 0 0 [] []:=⟨Own.nil _ _ _ _,rfl,fun j l h=>by simp at h⟩
theorem RwL.rdM {W:World}{G:Nat→Prop}{B n c:Nat}{A:Option Addr}{xs:List Value} {ls:List (List Int)} (h:RwL W B A n c xs ls) (hG:∀ b,B≤b→b<W.heap.size→G b):RdT (msk W G) A n ls :=
 ⟨h.2.1,fun i t ht=>by
  obtain ⟨A2,n2,c2,h1,h4,hl,h5,h6⟩:=h.2.2 i t ht;obtain ⟨b,o,e,k1⟩:=h.1.rds.2 _ _ h1;have hb:=h.1.lt b (by rw [e];rfl);exact ⟨b,o,A2,n2,c2,e,Qar.2 ⟨hG b hb.1 hb.2,k1⟩,h4.msk (fun g hg=>hG g (hl g hg).1 (hl g hg).2.1),h5,h6⟩⟩
theorem RwL.push {W w':World}{B n c c' m d:Nat}{A A' R:Option Addr}{xs:List Value} {ls:List (List Int)} {t:List Int} (h:RwL W B A n c xs ls)
 (hown:Own w' B 93 1 A' (n+1) c' (xs ++[.slice R m d])) (hg:W.grownBy w' (Qab A)) (hat:Qab A'=Qab A∨Qab A'=some W.heap.size)
 (hr:RdI W R m t) (hne:∀ g,Qab R=some g→B≤g∧g<W.heap.size∧Qab A≠some g) (h4:m≤d) (h5:d≤9223372036854775807):RwL w' B A' (n+1) c' (xs ++[.slice R m d]) (ls ++[t]):=by
 have hxl:xs.length=ls.length:=by rw [h.1.1,h.2.1,Nat.mul_one]
 have new:∀ Y:Option Addr,(∀ g,Qab Y=some g→B≤g∧g<W.heap.size∧Qab A≠some g)→∀ g,Qab Y=some g→B≤g∧g<w'.heap.size∧Qab A'≠some g:=fun Y hY g e=>by
  obtain ⟨k0,k1,k2⟩:=hY g e;refine ⟨k0,Nat.lt_of_lt_of_le k1 hg.size,fun e2=>?_⟩
  rcases hat with hat|hat
  · exact k2 (by rw [←hat];exact e2)
  · rw [hat] at e2
    injection e2 with e2
    omega
 refine ⟨hown,by simp [h.2.1],fun j t' hl=>?_⟩
 rcases Nat.lt_trichotomy j ls.length with hj|hj|hj
 · rw [List.getElem?_append_left hj] at hl
   obtain ⟨A2,n2,c2,p1,k2,k3,k4,k5⟩:=h.2.2 j t' hl;exact ⟨A2,n2,c2,by rw [List.getElem?_append_left (by omega)];exact p1,k2.grownN hg (fun g e=>(k3 g e).2.2),new A2 k3,k4,k5⟩
 · subst hj
   rw [List.getElem?_append_right (Zn _),Nat.sub_self] at hl
   cases hl
   refine ⟨R,m,d,?_,hr.grownN hg (fun g e=>(hne g e).2.2),new R hne,h4,h5⟩;rw [←hxl,List.getElem?_append_right (Zn _),Nat.sub_self];rfl
 · rw [List.getElem?_eq_none (by simp;omega)] at hl
   cases hl
theorem RwL.below {W W':World}{B n c:Nat}{A:Option Addr}{xs:List Value} {ls:List (List Int)} (h:RwL W B A n c xs ls) (hb:Below W.heap.size W W'):RwL W' B A n c xs ls :=
 ⟨h.1.below hb,h.2.1,fun i l hl=>by
  obtain ⟨A',n',c',p1,h2,h3,h4,h5⟩:=h.2.2 i l hl;exact ⟨A',n',c',p1,h2.below hb,fun g hg=>⟨(h3 g hg).1,Nat.lt_of_lt_of_le (h3 g hg).2.1 hb.size,(h3 g hg).2.2⟩,h4,h5⟩⟩
theorem RwL.far {W W':World}{B n c:Nat}{A:Option Addr}{xs:List Value} {ls:List (List Int)} (h:RwL W B A n c xs ls) {g:Nat} (hg:W.grownBy W' (some g)) (hB:g<B):RwL W' B A n c xs ls :=
 ⟨h.1.far hg (.inr (fun e=>by have:=(h.1.lt g e).1;omega)),h.2.1,fun i l hl=>by
  obtain ⟨A',n',c',p1,h2,h3,h4,h5⟩:=h.2.2 i l hl;refine ⟨A',n',c',p1,h2.grownN hg (fun k hk e=>?_),fun k hk=>⟨(h3 k hk).1,Nat.lt_of_lt_of_le (h3 k hk).2.1 hg.size,(h3 k hk).2.2⟩,h4,h5⟩
  cases e
  have:=(h3 g hk).1;omega⟩
set_option maxHeartbeats 400000 in
theorem Qjt (A:Option Addr)(n c:Nat)(l:List Int)(w:World)(h:RdI w A n l)(hn:n≤1000000) :
 Calls prog 79 #[.slice A n c] w fun e w'=>∃ A2 c2,e=.returned (.slice A2 n c2)∧Own w' w.heap.size 3 1 A2 n c2 (Qad l)∧Below w.heap.size w w':=by
 have hr:=h.rdsI;have hown:=Own.nil w w.heap.size 1 3;clear h
 go_enter func79,ntmps79
 go_wp2_with (at_builtin;with_reducible refine Qap rfl (.const (.slice none 0 0)) (.tmp 3) 93 rfl 3 _ 1 8 Qaw underlying93 rfl (by omega) rfl rfl hown hr (Qah _) (by omega) (by omega) (by omega) ?_)
 intro A' c' w' hown' hg _;have hb:=Bel.grownOwn (Zr w.heap.size w) hg hown (Zn _)
 try simp only [Nat.zero_add,List.nil_append] at hown'
 have HO:=Zh hown';clear hown' hg hown hr
 go_wp2
 go_ret
 exact ⟨_,_,rfl,HO.out,hb⟩
end Go.Proofs.YthoagdpakddbdaaGreatDoor
