/- Parts of the proof: Rw, Tw, G3, G4, Ov. -/
import Derived.Test.YtdheeddnkdhfeaaGreatDoorH6
namespace Go.Proofs.YtdheeddnkdhfeaaGreatDoor
open Go.RowKit Go.Proofs.Tryz
def RwL (W:World)(B:Nat)(A:Option Addr)(n c:Nat)(xs:List Value) (ls:List (List Int)):Prop :=
 Own W B 61 1 A n c xs∧ls.length=n∧∀ (j:Nat) (l:List Int),ls[j]?=some l→∃ (A2:Option Addr) (n2 c2:Nat),xs[j]?=some (Value.slice A2 n2 c2)∧RdI W A2 n2 l∧(∀ g,Qab A2=some g→B≤g∧g<W.heap.size∧Qab A≠some g)∧n2≤c2∧c2≤9223372036854775807
theorem RwL.nil (W:World)(B:Nat):RwL W B none 0 0 [] []:=⟨Own.nil _ _ _ _,rfl,fun j l h=>by simp at h⟩
theorem RwL.rdM {W:World}{G:Nat→Prop}{B n c:Nat}{A:Option Addr}{xs:List Value} {ls:List (List Int)} (h:RwL W B A n c xs ls) (hG:∀ b,B≤b→b<W.heap.size→G b):RdT (msk W G) A n ls :=
 ⟨h.2.1,fun i t ht=>by
  obtain ⟨A2,n2,c2,h1,h4,hl,h5,h6⟩:=h.2.2 i t ht;obtain ⟨b,o,e,k1⟩:=h.1.rds.2 _ _ h1;have hb:=h.1.lt b (by rw [e];rfl);exact ⟨b,o,A2,n2,c2,e,Qbb.2 ⟨hG b hb.1 hb.2,k1⟩,h4.msk (fun g hg=>hG g (hl g hg).1 (hl g hg).2.1),h5,h6⟩⟩
theorem RwL.push {W w':World}{B n c c' m d:Nat}{A A' R:Option Addr}{xs:List Value} {ls:List (List Int)} {t:List Int} (h:RwL W B A n c xs ls)
 (hown:Own w' B 61 1 A' (n+1) c' (xs ++[.slice R m d])) (hg:W.grownBy w' (Qab A)) (hat:Qab A'=Qab A∨Qab A'=some W.heap.size)
 (hr:RdI W R m t) (hne:∀ g,Qab R=some g→B≤g∧g<W.heap.size∧Qab A≠some g) (h4:m≤d) (h5:d≤9223372036854775807):RwL w' B A' (n+1) c' (xs ++[.slice R m d]) (ls ++[t]):=by
 have hxl:xs.length=ls.length:=by rw [h.1.1,h.2.1,Nat.mul_one]
 have new:∀ Y:Option Addr,(∀ g,Qab Y=some g→B≤g∧g<W.heap.size∧Qab A≠some g)→∀ g,Qab Y=some g→B≤g∧g<w'.heap.size∧Qab A'≠some g:=fun Y hY g e=>by{obtain ⟨k0,k1,k2⟩:=hY g e;refine ⟨k0,Yu k1 hg.size,fun e2=>?_⟩;exact Kbn};refine ⟨hown,by simp [h.2.1],fun j t' hl=>?_⟩;rcases Nat.lt_trichotomy j ls.length with hj|hj|hj
 {rw [Yc hj] at hl;obtain ⟨A2,n2,c2,p1,k2,k3,k4,k5⟩:=h.2.2 j t' hl;exact ⟨A2,n2,c2,by rw [Yc (by omega)];exact p1,k2.grownN hg (fun g e=>(k3 g e).2.2),new A2 k3,k4,k5⟩};{subst hj;rw [Yb (Zn _),Yy] at hl;cases hl;refine ⟨R,m,d,?_,hr.grownN hg (fun g e=>(hne g e).2.2),new R hne,h4,h5⟩;rw [←hxl,Yb (Zn _),Yy];rfl};{rw [Yd (by simp;omega)] at hl;cases hl}
theorem RwL.below {W W':World}{B n c:Nat}{A:Option Addr}{xs:List Value} {ls:List (List Int)} (h:RwL W B A n c xs ls) (hb:Below W.heap.size W W'):RwL W' B A n c xs ls :=
 ⟨h.1.below hb,h.2.1,fun i l hl=>by
  obtain ⟨A',n',c',p1,h2,h3,h4,h5⟩:=h.2.2 i l hl;exact ⟨A',n',c',p1,h2.below hb,fun g hg=>⟨(h3 g hg).1,Yu (h3 g hg).2.1 hb.size,(h3 g hg).2.2⟩,h4,h5⟩⟩
theorem RwL.far {W W':World}{B n c:Nat}{A:Option Addr}{xs:List Value} {ls:List (List Int)} (h:RwL W B A n c xs ls) {g:Nat} (hg:W.grownBy W' (some g)) (hB:g<B):RwL W' B A n c xs ls :=
 ⟨h.1.far hg (.inr (fun e=>by have:=(h.1.lt g e).1;omega)),h.2.1,fun i l hl=>by
  obtain ⟨A',n',c',p1,h2,h3,h4,h5⟩:=h.2.2 i l hl;refine ⟨A',n',c',p1,h2.grownN hg (fun k hk e=>?_),fun k hk=>⟨(h3 k hk).1,Yu (h3 k hk).2.1 hg.size,(h3 k hk).2.2⟩,h4,h5⟩
  cases e
  have:=(h3 g hk).1;omega⟩
attribute [local go_sem ↓] Go.wp_at_zero Go.wp_at_succ
set_option maxHeartbeats 400000 in
theorem Qkh (A:Option Addr)(n c:Nat)(l:List Int)(w:World)(h:RdI w A n l)(hn:n≤1000000) :
 Calls prog 117 #[.slice A n c] w fun e w'=>∃ A2 c2,e=.returned (.slice A2 n c2)∧Own w' w.heap.size 3 1 A2 n c2 (Qag l)∧Below w.heap.size w w':=by
 have hr:=h.rdsI;have hown:=Own.nil w w.heap.size 1 3;clear h;go_enter func117,ntmps117
 go_wp2_with (at_builtin;with_reducible refine Qal rfl (.const (.slice none 0 0)) (.tmp 3) 61 rfl 3 _ 1 8 Qbo underlying61 rfl (by omega) rfl rfl hown hr (Qao _) (by omega) (by omega) (by omega) ?_)
 intro A' c' w' hown' hg _;have hb:=Zo (Zr w.heap.size w) hg hown (Zn _);try simp only [Yz,List.nil_append] at hown'
 have HO:=Zh hown';clear hown' hg hown hr;go_wp2;go_ret;exact ⟨_,_,rfl,HO.out,hb⟩
set_option maxHeartbeats 4000000 in
set_option maxRecDepth 20000 in
theorem Qtz (Q:Option Addr)(L cq:Nat) (ls:List (List Int)) (w:World) (h:RdT w Q L ls) (hL:L≤1000000) (hc:∀ l∈ls,l.length≤1000000) :
 Calls prog 114 #[.agg #[.slice Q L cq]] w fun r w'=>∃ Q' cq',r=.returned (.agg #[.slice Q' L cq'])∧RdT (msk w' (fun b=>w.heap.size≤b∧b<w'.heap.size)) Q' L ls∧L≤cq'∧cq'≤9223372036854775807∧Below w.heap.size w w':=by
 have HT:=Zh h;have HC:=Zh hc;clear h hc;go_enter func114,ntmps114
 go_wp2_with fail
 (refine Qaj ?_;intro w1 hw1);have hb1:Below w.heap.size w w1:=by rw [hw1];exact Qah
 have hJ:Blk w1 w.heap.size 132 #[.slice Q L cq]:=by rw [hw1];exact Qbi
 have hR:Blk w1 (w.heap.size+1) 132 #[.slice none 0 0]:=by rw [hw1];exact Qbi
 have hK0:Blk w1 (w.heap.size+2) 132 #[.slice none 0 0]:=by rw [hw1];exact Qbi
 clear hw1;go_loopw [9] (fun i W=>Below w.heap.size w W∧Blk W w.heap.size 132 #[.slice Q L cq]∧Blk W (w.heap.size+1) 132 #[.slice none 0 0]∧∃ (j:Nat) (A3:Option Addr) (c3:Nat) (xs:List Value),j≤L∧i=.int .i64 j∧Blk W (w.heap.size+2) 132 #[.slice A3 j c3]∧RwL W (w.heap.size+3) A3 j c3 xs (ls.take j)) (fun i _=>L-(intOf i).toNat)
 case atStart=>exact ⟨hb1,hJ,hR,0,none,0,[],Nat.zero_le _,rfl,hK0,by simpa using RwL.nil _ _⟩
 case round =>
  clear hb1 hJ hR hK0;obtain ⟨hbl,hJ,hR,j,A3,c3,xs,hj,rfl,hK0,hown⟩:=hrel;have j0:=hJ.cell 0;simp only [Yo,Yn] at j0;by_cases hlt:j<L
  · obtain ⟨sb,so,Ar,m,cr,l,rfl,hl,hcl,hr,hq1,hq2⟩:=HT.out.at_ hlt
    have HN:=Zh (show ls.take (j+1)=ls.take j ++[l] by
     rw [Yf (Zs hl).1,(Zs hl).2])
    (have hm:m≤1000000:=by have:=HC.out l (Zm hl);rw [hr.1] at this;exact this);(have dcl:=Zc hbl (Zn _) hcl;have HRR:=Zh (hr.below hbl);have i3:0≤(j:Int):=by omega);(have i4:(j:Int)<L:=by omega);(have hsz:w.heap.size+3≤wr.heap.size:=by have:=hK0.lt;omega);clear hr hl hcl hq1 hq2
    have HTC:=Zh (show ∀ V,Below wr.heap.size wr V→Calls prog 117 #[.slice Ar m cr] V (fun e w'=>∃ A2 c2,e=.returned (.slice A2 m c2)∧Own w' V.heap.size 3 1 A2 m c2 (Qag l)∧Below V.heap.size V w') from
     fun V hV=>Qkh Ar m cr l V (HRR.out.below hV) hm)
    (go_wp2_with fail);refine wp_region_held_drew (S:=fun V=>Below (w.heap.size+2) wr V) (by kernel_rfl) (Zr _ _).drew (fun _=>?_);refine tz 0 13 ?_;refine tz 2 15 ?_;refine wpAnyH_ready (rs:=[1,3]) (by kernel_rfl) (by simp) ?_;refine AllReadyH.cons (o:=_) rfl (fun K hK=>?_) (AllReadyH.cons (o:=_) rfl (fun K hK=>?_) AllReadyH.nil);{have k3a:=hK0.cell 0;(simp only [Yo,Yn] at k3a;go_simp;refine hK.out _ _ (Zr _ _).drew (fun _=>?_);clear hK K k3a;refine Zk 3 (fun K hK=>?_);go_simp;with_reducible refine (HTC.out _ Qah).mono ?_);rintro r w4 ⟨A2,c2,rfl,hrc,hb4⟩;have hrc:Own w4 wr.heap.size 3 1 A2 m c2 (Qag l):=hrc;have hbr4:Below wr.heap.size wr w4:=Zb Qah hb4;clear hb4;(go_wp2_with fail);(refine hK.out _ _ (hbr4.mono (by omega)) (fun _=>?_);clear hK K;refine Zk 4 (fun K hK=>?_);go_simp;refine hK.out _ _ (Below.alloc (hbr4.mono (by omega)) (by have:=hbr4.size;omega) _) (fun _=>?_);clear hK K;obtain ⟨W,hW⟩:=Zx (w4.alloc (.cells #[.slice A2 m c2] 61));rw [←hW];have hb4W:Below w4.heap.size w4 W:=by rw [hW];exact Qah);(have hrdW:Rds W 1 (some ⟨w4.heap.size,0,none⟩) 1 [.slice A2 m c2]:=by rw [hW];exact (Blk.new w4 61 #[.slice A2 m c2]).rds rfl);(clear hW;have hbrW:Below wr.heap.size wr W:=Zb hbr4 hb4W;have hcW:=hrc.rds.rdI.below hb4W;have hloW:∀ g,Qab A2=some g→wr.heap.size≤g∧g<W.heap.size:=fun g hg=>⟨(hrc.lt g hg).1,Yu (hrc.lt g hg).2 hb4W.size⟩);have hcapW:=hrc.cap;have hcapM:=hrc.capMax;have hbrW:Below wr.heap.size wr W:=hbrW;have hyW:=hown.below hbrW;have hbW:Below (w.heap.size+2) wr W:=hbrW.mono (by omega);have hblW:Below w.heap.size w W:=Zb hbl hbrW;have hJW:=hJ.below hbrW hJ.lt;have hRW:=hR.below hbrW hR.lt;have hKW:=hK0.below hbrW hK0.lt;have hclW:∀ g,Qab A2=some g→w.heap.size+3≤g∧g<W.heap.size∧Qab A3≠some g:=fun g hg=>by{exact Kar};(have hWsz:w.heap.size+3≤W.heap.size:=by have:=hbrW.size;omega);exact Kac};{go_simp;(with_reducible refine (HTC.out _ Qah).mono ?_);rintro r w4 ⟨A2,c2,rfl,hrc,hb4⟩;have hrc:Own w4 wr.heap.size 3 1 A2 m c2 (Qag l):=hrc;have hbr4:Below wr.heap.size wr w4:=Zb Qah hb4;clear hb4;(go_wp2_with fail);refine hK.out _ _ (hbr4.mono (by omega)) (fun _=>?_);clear hK K;refine wpAnyH_ready (rs:=[1,4]) (by kernel_rfl) (by simp) ?_;refine AllReadyH.cons (o:=_) rfl (fun K hK=>?_) (AllReadyH.cons (o:=_) rfl (fun K hK=>?_) AllReadyH.nil);{have k3a:=(hK0.below hbr4 hK0.lt).cell 0;(simp only [Yo,Yn] at k3a;go_simp;refine hK.out _ _ (hbr4.mono (by omega)) (fun _=>?_);clear hK K k3a;refine Zk 4 (fun K hK=>?_);go_simp;refine hK.out _ _ (Below.alloc (hbr4.mono (by omega)) (by have:=hbr4.size;omega) _) (fun _=>?_);clear hK K;obtain ⟨W,hW⟩:=Zx (w4.alloc (.cells #[.slice A2 m c2] 61));rw [←hW];have hb4W:Below w4.heap.size w4 W:=by rw [hW];exact Qah);(have hrdW:Rds W 1 (some ⟨w4.heap.size,0,none⟩) 1 [.slice A2 m c2]:=by rw [hW];exact (Blk.new w4 61 #[.slice A2 m c2]).rds rfl);(clear hW;have hbrW:Below wr.heap.size wr W:=Zb hbr4 hb4W;have hcW:=hrc.rds.rdI.below hb4W;have hloW:∀ g,Qab A2=some g→wr.heap.size≤g∧g<W.heap.size:=fun g hg=>⟨(hrc.lt g hg).1,Yu (hrc.lt g hg).2 hb4W.size⟩);have hcapW:=hrc.cap;have hcapM:=hrc.capMax;have hbrW:Below wr.heap.size wr W:=hbrW;have hyW:=hown.below hbrW;have hbW:Below (w.heap.size+2) wr W:=hbrW.mono (by omega);have hblW:Below w.heap.size w W:=Zb hbl hbrW;have hJW:=hJ.below hbrW hJ.lt;have hRW:=hR.below hbrW hR.lt;have hKW:=hK0.below hbrW hK0.lt;have hclW:∀ g,Qab A2=some g→w.heap.size+3≤g∧g<W.heap.size∧Qab A3≠some g:=fun g hg=>by{exact Kar};(have hWsz:w.heap.size+3≤W.heap.size:=by have:=hbrW.size;omega);exact Kac};{go_simp;(refine hK.out _ _ (Below.alloc (hbr4.mono (by omega)) (by have:=hbr4.size;omega) _) (fun _=>?_);clear hK K;have k3a:∀ o,(w4.alloc o).cell? ⟨w.heap.size+2,0,none⟩=some (.slice A3 j c3):=fun o=>((hK0.below hbr4 hK0.lt).alloc o).cell 0);(refine Zk 1 (fun K hK=>?_);go_simp;refine hK.out _ _ (Below.alloc (hbr4.mono (by omega)) (by have:=hbr4.size;omega) _) (fun _=>?_);clear hK K k3a;obtain ⟨W,hW⟩:=Zx (w4.alloc (.cells #[.slice A2 m c2] 61));rw [←hW];have hb4W:Below w4.heap.size w4 W:=by rw [hW];exact Qah);(have hrdW:Rds W 1 (some ⟨w4.heap.size,0,none⟩) 1 [.slice A2 m c2]:=by rw [hW];exact (Blk.new w4 61 #[.slice A2 m c2]).rds rfl);(clear hW;have hbrW:Below wr.heap.size wr W:=Zb hbr4 hb4W;have hcW:=hrc.rds.rdI.below hb4W;have hloW:∀ g,Qab A2=some g→wr.heap.size≤g∧g<W.heap.size:=fun g hg=>⟨(hrc.lt g hg).1,Yu (hrc.lt g hg).2 hb4W.size⟩);have hcapW:=hrc.cap;have hcapM:=hrc.capMax;have hbrW:Below wr.heap.size wr W:=hbrW;have hyW:=hown.below hbrW;have hbW:Below (w.heap.size+2) wr W:=hbrW.mono (by omega);have hblW:Below w.heap.size w W:=Zb hbl hbrW;have hJW:=hJ.below hbrW hJ.lt;have hRW:=hR.below hbrW hR.lt;have hKW:=hK0.below hbrW hK0.lt;have hclW:∀ g,Qab A2=some g→w.heap.size+3≤g∧g<W.heap.size∧Qab A3≠some g:=fun g hg=>by{exact Kar};(have hWsz:w.heap.size+3≤W.heap.size:=by have:=hbrW.size;omega);exact Kac}}
  {(obtain rfl:L=j:=by omega);rw [Ye (by rw [HT.out.1];exact Zn _)] at hown;have q0:=hK0.cell 0;have r0:=hR.cell 0;simp only [Yo,Yn] at q0 r0;have f0:=hR.frozen 0;have hown2:=hown.far (Qad wr (w.heap.size+1) 0 (.slice A3 L c3)) (by omega);have HM:=Zh (hown2.rdM (G:=fun b=>w.heap.size≤b∧b<(wr.setCell ⟨w.heap.size+1,0,none⟩ (.slice A3 L c3)).heap.size) (fun b h1 h2=>⟨by omega,h2⟩));have HCP:=Zh (And.intro hown.1.cap hown.1.capMax);clear hown hown2 hR;(go_wp2_with fail);refine bodyPost_ret (v:=.agg #[.slice A3 L c3]) (by simp [results,results114,go_sem,r0]) rfl ?_;exact ⟨A3,c3,rfl,HM.out,HCP.out.1,HCP.out.2,Qah⟩}
set_option maxHeartbeats 4000000 in
set_option maxRecDepth 20000 in
theorem Qws (G:Nat→Prop)(A B C:Option Addr)(n m k c d e:Nat)(N:Qam)(w:World)(h:Qqo w G A B C n m k N)(hG:∀ b,G b→b<w.heap.size)(hN:Qap N)(hc:n≤c∧c≤9223372036854775807)(hd:m≤d∧d≤9223372036854775807)(he:k≤e∧e≤9223372036854775807) :
 Calls prog 137 #[.agg #[.slice A n c,.slice B m d,.slice C k e]] w fun r w'=>∃ g,r=.returned (.pointer (some ⟨g,0,none⟩))∧GrO w' (fun b=>G b∨Qab B=some b∨Qab C=some b∨(w.heap.size≤b∧b<w'.heap.size)) g N∧Below w.heap.size w w':=by
 have HH:=Zh h;have HLV:=Zh h.vs.1;have HLA:=Zh h.ar.1;have HGW:=Zh hG;have hn:n≤4096:=by rw [←h.vs.1];exact hN.lv
 have hm:m≤16384:=by rw [←h.ar.1];exact hN.la
 have HN:=Zh hN;have HCC:=Zh (And.intro hc (And.intro hd he));clear h hN hG hc hd he;obtain ⟨cs,hcs,hmk⟩:=Qvp m (by omega);have hmk2:=Qmt n (by omega);have HCS:=Zh hcs;clear hcs;go_enter func137,ntmps137
 go_wp2_with fail
 (refine Qaj ?_;intro w1 hw1);have hb1:Below w.heap.size w w1:=by rw [hw1];exact Qah
 have hJ:Blk w1 w.heap.size 177 #[.slice A n c,.slice B m d,.slice C k e]:=by rw [hw1];exact Qbi
 have hz1:w1.heap.size=w.heap.size+1:=by rw [hw1];simp
 clear hw1;have HSX:=Zh (show ∀ V,Below w1.heap.size w1 V→V.cell? ⟨w.heap.size,0,none⟩=some (.slice A n c)∧V.cell? ⟨w.heap.size,1,none⟩=some (.slice B m d)∧V.cell? ⟨w.heap.size,2,none⟩=some (.slice C k e) from fun V hV=>(hJ.below hV hJ.lt).three);refine wp_region_held_drew (S:=fun V=>Below w1.heap.size w1 V) (by kernel_rfl) (Zr _ _).drew (fun _=>?_);refine tzd 0 6 ?_;refine tzb 5 11 ?_;refine tz 7 13 ?_;refine tzb 9 15 ?_;refine tz 11 17 ?_;refine Qqi (G:=Qmy w1 n m cs) (L:=#[true,true,true,true,true,true,true,true,true,true,true,true,true,false,false,false]) (f0:=3) (some 10) (some 14) (some 18) rfl (fun C0 hC=>?_) ?_;{(skip);refine Qcv (rs:=[4,8,12]) (by kernel_rfl) (by simp) ?_;refine Qhi.cons (o:=_) rfl (fun K hK=>?_) (Qhi.cons (o:=_) rfl (fun K hK=>?_) (Qhi.cons (o:=_) rfl (fun K hK=>?_) (Qhi.nil)));{go_simp;refine hK.out _ _ Qah (fun _=>?_);clear hK K;refine Qcv (rs:=[8,12]) (by kernel_rfl) (by simp) ?_;refine Qhi.cons (o:=_) rfl (fun K hK=>?_) (Qhi.cons (o:=_) rfl (fun K hK=>?_) (Qhi.nil));{go_simp;refine hK.out _ _ Qah (fun _=>?_);clear hK K;refine Qcv (rs:=[12]) (by kernel_rfl) (by simp) ?_;refine Qhi.cons (o:=_) rfl (fun K hK=>?_) (Qhi.nil);go_simp;refine hK.out _ _ Qah (fun _=>?_);clear hK K;(refine ⟨by kernel_rfl,hC.out _ _ _ _ (Qmy.of (w.heap.size+1) (w.heap.size+1+1) (w.heap.size+1+1+1) ?_)⟩ <;> exact ⟨by simp [hz1],by omega,by omega,by omega,by omega,by omega,by omega,by repeat (first|apply Blk.drew|(refine Blk.new' _ _ _ ?_ <;> simp [hz1] <;> done)|apply Blk.alloc),by repeat (first|apply Blk.drew|(refine Blk.new' _ _ _ ?_ <;> simp [hz1] <;> done)|apply Blk.alloc),by repeat (first|apply Blk.drew|(refine Blk.new' _ _ _ ?_ <;> simp [hz1] <;> done)|apply Blk.alloc),Qah⟩)};{go_simp;refine hK.out _ _ Qah (fun _=>?_);clear hK K;refine Qcv (rs:=[8]) (by kernel_rfl) (by simp) ?_;refine Qhi.cons (o:=_) rfl (fun K hK=>?_) (Qhi.nil);go_simp;refine hK.out _ _ Qah (fun _=>?_);clear hK K;(refine ⟨by kernel_rfl,hC.out _ _ _ _ (Qmy.of (w.heap.size+1) (w.heap.size+1+1+1) (w.heap.size+1+1) ?_)⟩ <;> exact ⟨by simp [hz1],by omega,by omega,by omega,by omega,by omega,by omega,by repeat (first|apply Blk.drew|(refine Blk.new' _ _ _ ?_ <;> simp [hz1] <;> done)|apply Blk.alloc),by repeat (first|apply Blk.drew|(refine Blk.new' _ _ _ ?_ <;> simp [hz1] <;> done)|apply Blk.alloc),by repeat (first|apply Blk.drew|(refine Blk.new' _ _ _ ?_ <;> simp [hz1] <;> done)|apply Blk.alloc),Qah⟩)}};{go_simp;refine hK.out _ _ Qah (fun _=>?_);clear hK K;refine Qcv (rs:=[4,12]) (by kernel_rfl) (by simp) ?_;refine Qhi.cons (o:=_) rfl (fun K hK=>?_) (Qhi.cons (o:=_) rfl (fun K hK=>?_) (Qhi.nil));{go_simp;refine hK.out _ _ Qah (fun _=>?_);clear hK K;refine Qcv (rs:=[12]) (by kernel_rfl) (by simp) ?_;refine Qhi.cons (o:=_) rfl (fun K hK=>?_) (Qhi.nil);go_simp;refine hK.out _ _ Qah (fun _=>?_);clear hK K;(refine ⟨by kernel_rfl,hC.out _ _ _ _ (Qmy.of (w.heap.size+1+1) (w.heap.size+1) (w.heap.size+1+1+1) ?_)⟩ <;> exact ⟨by simp [hz1],by omega,by omega,by omega,by omega,by omega,by omega,by repeat (first|apply Blk.drew|(refine Blk.new' _ _ _ ?_ <;> simp [hz1] <;> done)|apply Blk.alloc),by repeat (first|apply Blk.drew|(refine Blk.new' _ _ _ ?_ <;> simp [hz1] <;> done)|apply Blk.alloc),by repeat (first|apply Blk.drew|(refine Blk.new' _ _ _ ?_ <;> simp [hz1] <;> done)|apply Blk.alloc),Qah⟩)};{go_simp;refine hK.out _ _ Qah (fun _=>?_);clear hK K;refine Qcv (rs:=[4]) (by kernel_rfl) (by simp) ?_;refine Qhi.cons (o:=_) rfl (fun K hK=>?_) (Qhi.nil);go_simp;refine hK.out _ _ Qah (fun _=>?_);clear hK K;(refine ⟨by kernel_rfl,hC.out _ _ _ _ (Qmy.of (w.heap.size+1+1+1) (w.heap.size+1) (w.heap.size+1+1) ?_)⟩ <;> exact ⟨by simp [hz1],by omega,by omega,by omega,by omega,by omega,by omega,by repeat (first|apply Blk.drew|(refine Blk.new' _ _ _ ?_ <;> simp [hz1] <;> done)|apply Blk.alloc),by repeat (first|apply Blk.drew|(refine Blk.new' _ _ _ ?_ <;> simp [hz1] <;> done)|apply Blk.alloc),by repeat (first|apply Blk.drew|(refine Blk.new' _ _ _ ?_ <;> simp [hz1] <;> done)|apply Blk.alloc),Qah⟩)}};{go_simp;refine hK.out _ _ Qah (fun _=>?_);clear hK K;refine Qcv (rs:=[4,8]) (by kernel_rfl) (by simp) ?_;refine Qhi.cons (o:=_) rfl (fun K hK=>?_) (Qhi.cons (o:=_) rfl (fun K hK=>?_) (Qhi.nil));{go_simp;refine hK.out _ _ Qah (fun _=>?_);clear hK K;refine Qcv (rs:=[8]) (by kernel_rfl) (by simp) ?_;refine Qhi.cons (o:=_) rfl (fun K hK=>?_) (Qhi.nil);go_simp;refine hK.out _ _ Qah (fun _=>?_);clear hK K;(refine ⟨by kernel_rfl,hC.out _ _ _ _ (Qmy.of (w.heap.size+1+1) (w.heap.size+1+1+1) (w.heap.size+1) ?_)⟩ <;> exact ⟨by simp [hz1],by omega,by omega,by omega,by omega,by omega,by omega,by repeat (first|apply Blk.drew|(refine Blk.new' _ _ _ ?_ <;> simp [hz1] <;> done)|apply Blk.alloc),by repeat (first|apply Blk.drew|(refine Blk.new' _ _ _ ?_ <;> simp [hz1] <;> done)|apply Blk.alloc),by repeat (first|apply Blk.drew|(refine Blk.new' _ _ _ ?_ <;> simp [hz1] <;> done)|apply Blk.alloc),Qah⟩)};{go_simp;refine hK.out _ _ Qah (fun _=>?_);clear hK K;refine Qcv (rs:=[4]) (by kernel_rfl) (by simp) ?_;refine Qhi.cons (o:=_) rfl (fun K hK=>?_) (Qhi.nil);go_simp;refine hK.out _ _ Qah (fun _=>?_);clear hK K;(refine ⟨by kernel_rfl,hC.out _ _ _ _ (Qmy.of (w.heap.size+1+1+1) (w.heap.size+1+1) (w.heap.size+1) ?_)⟩ <;> exact ⟨by simp [hz1],by omega,by omega,by omega,by omega,by omega,by omega,by repeat (first|apply Blk.drew|(refine Blk.new' _ _ _ ?_ <;> simp [hz1] <;> done)|apply Blk.alloc),by repeat (first|apply Blk.drew|(refine Blk.new' _ _ _ ?_ <;> simp [hz1] <;> done)|apply Blk.alloc),by repeat (first|apply Blk.drew|(refine Blk.new' _ _ _ ?_ <;> simp [hz1] <;> done)|apply Blk.alloc),Qah⟩)}}}
 · rintro v1 v2 v3 w2 ⟨ib,ob,pb,rfl,rfl,rfl,hg⟩;(have hb2:=hg.bl;simp only [Act.put,Yi,Yj,Yk];refine tz 13 19 ?_;refine Zk 14 (fun K hK=>?_);go_simp;refine hK.out _ _ Qah (fun _=>?_);clear hK K;refine tz 15 3 ?_;refine Zd ?_;obtain ⟨w3,hw3⟩:=Zx (w2.alloc (.cells #[.slice A n c,.slice B m d,.slice C k e,.slice (some ⟨ib,0,none⟩) n n,.slice (some ⟨ob,0,none⟩) n n,.slice (some ⟨pb,0,none⟩) m m] 189));rw [←hw3];have hz2:w2.heap.size=w.heap.size+4:=by have:=hg.sz;omega);(have hz3:w3.heap.size=w.heap.size+5:=by rw [hw3];simp;omega);(have hb23:Below w2.heap.size w2 w3:=by rw [hw3];exact Qah);(have hG3:Blk w3 w2.heap.size 189 #[.slice A n c,.slice B m d,.slice C k e,.slice (some ⟨ib,0,none⟩) n n,.slice (some ⟨ob,0,none⟩) n n,.slice (some ⟨pb,0,none⟩) m m]:=by rw [hw3];exact Blk.new _ _ _);have hR3:Ik2 w3 (w.heap.size+5) ib ob n (Qkk (·.2.1) (N.ar.take 0) n) (Qkk (·.1) (N.ar.take 0) n):=by{rw [List.take_zero,Qjp,Qjp];exact Ik2.start (by have:=hg.li;omega) (by have:=hg.lo;omega) hg.io (hg.bi.below hb23 hg.bi.lt) (hg.bo.below hb23 hg.bo.lt)};(have hP3:PlO w3 pb m N.ar 0:=(PlO.start hg.bp HCS.out).below hb23;have hb3:Below w.heap.size w w3:=Zb hb1 (Zb hb2 hb23);have hJ3:=(hJ.below hb2 hJ.lt).below hb23 (hJ.below hb2 hJ.lt).lt;have lib:ib<w.heap.size+4:=by have:=hg.li;omega);(have lob:ob<w.heap.size+4:=by have:=hg.lo;omega);(have lpb:pb<w.heap.size+4:=by have:=hg.lp;omega);(have lbs:w.heap.size<ib∧w.heap.size<ob∧w.heap.size<pb:=by have:=hg.li;have:=hg.lo;have:=hg.lp;omega);have nip:=hg.ip;have nop:=hg.op;have nio:=hg.io;obtain ⟨j0,j1,j2⟩:=hJ3.three;clear hw3 hg hb23 hb2 hb1 hz1 hJ HSX hmk hmk2 HCS;rw [hz2] at hG3;rw [hz2];clear hz2;(go_wp2_with fail);clear j0 j1 j2 hJ3;(go_loopw [24] (fun q W=>w.heap.size+5≤W.heap.size∧Below w.heap.size w W∧Blk W (w.heap.size+4) 189 #[.slice A n c,.slice B m d,.slice C k e,.slice (some ⟨ib,0,none⟩) n n,.slice (some ⟨ob,0,none⟩) n n,.slice (some ⟨pb,0,none⟩) m m]∧∃ j:Nat,j≤m∧q=.int .i64 j∧Ik2 W (w.heap.size+5) ib ob n (Qkk (·.2.1) (N.ar.take j) n) (Qkk (·.1) (N.ar.take j) n)∧PlO W pb m N.ar j) (fun q _=>m-(intOf q).toNat));case atStart=>exact ⟨by omega,hb3,hG3,0,Nat.zero_le _,rfl,hR3,hP3⟩
   case round =>
    clear hb3 hG3 hR3 hP3 hz3;obtain ⟨hsz,hbl,hG,j,hj,rfl,hI,hP⟩:=hrel;by_cases hlt:j<m
    · obtain ⟨b,o,x,y,z,rfl,hx,cx,cy,cz⟩:=(HH.out.ar.below hbl).at_ hlt;(have hok:=HN.out.arcs _ (Zm hx);have f0:=hok.f0;have f1:=hok.f1;have g0:=hok.g0;have g1:=hok.g1;simp only at f0 f1 g0 g1;rw [HLV.out] at f1 g1;obtain ⟨u,rfl⟩:∃ u:Nat,x=u:=⟨x.toNat,by omega⟩;obtain ⟨v,rfl⟩:∃ v:Nat,y=v:=⟨y.toNat,by omega⟩;have hu:u<n:=by omega);(have hvn:v<n:=by omega);have HN1:=Zh (Qhw (f:=(·.2.1)) (n:=n) (v:=v) hx rfl hvn);have HN2:=Zh (Qhw (f:=(·.1)) (n:=n) (v:=u) hx rfl hu);have HPN:=Zh (show Qha N.ar j ((u:Int),(v:Int),z)=((((idx (·.2.1) (N.ar.take j) (v:Int)).length:Nat):Int),(((idx (·.1) (N.ar.take j) (u:Int)).length:Nat):Int)) from rfl);(have HL1:=Zh (Qdq (f:=(·.2.1)) (l:=N.ar.take j) hvn);have HL2:=Zh (Qdq (f:=(·.1)) (l:=N.ar.take j) hu);have d1:=Qeq (·.2.1) N.ar j (v:Int);have d2:=Qeq (·.1) N.ar j (u:Int);have HX:=Zh hx;have i1:0≤(j:Int):=by omega);(have i2:(j:Int)<m:=by omega);(have i3:0≤(u:Int):=by omega);(have i4:(u:Int)<n:=by omega);(have i5:0≤(v:Int):=by omega);(have i6:(v:Int)<n:=by omega);(clear hx hok;generalize hl1:idx (·.2.1) (N.ar.take j) (v:Int)=la at *;generalize hl2:idx (·.1) (N.ar.take j) (u:Int)=lb at *;clear hl1 hl2;obtain ⟨W2,hW2⟩:=Zx (wr.alloc (.cells #[.int .i64 u,.int .i64 v,.int .i64 z] 186));have hr2:Below wr.heap.size wr W2:=by rw [hW2];exact Qah);(have hbr2:=hr2;have hI1:=hI;have hlib:=hI.1.lt;have hlob:=hI.2.1.lt;have hbr2:=hr2;have hI1:=hI;have hlib:=hI.1.lt;have hlob:=hI.2.1.lt;have hbr2:=hr2;have hI1:=hI;have hlib:=hI.1.lt;have hlob:=hI.2.1.lt;have hbr2:=hr2;have hI1:=hI;have hlib:=hI.1.lt;have hlob:=hI.2.1.lt;have hX2:Blk W2 wr.heap.size 186 #[.int .i64 u,.int .i64 v,.int .i64 z]:=by rw [hW2];exact Blk.new _ _ _);(have hI2:=hI.below hr2;have hP2:=hP.below hr2;have hG2:=hG.below hr2 hG.lt;have hbl2:=Zb hbl hr2;have hsz2:wr.heap.size+1=W2.heap.size:=by rw [hW2];simp);clear hI hP hG hr2;(go_wp2_with fail);rw [←hW2];clear hW2;obtain ⟨A1,c1,r1⟩:∃ A1 c1,W2.cell? ⟨ib,v,none⟩=some (.slice A1 la.length c1):=by{obtain ⟨A1,c1,l1,e1,e2,_⟩:=hI2.1.row hvn;rw [HL1.out] at e1;cases e1;exact ⟨A1,c1,e2⟩};obtain ⟨A2,c2,r2⟩:∃ A1 c1,W2.cell? ⟨ob,u,none⟩=some (.slice A1 lb.length c1):=by{obtain ⟨A1,c1,l1,e1,e2,_⟩:=hI2.2.1.row hu;rw [HL2.out] at e1;cases e1;exact ⟨A1,c1,e2⟩};have hx1:∀ q,Qab A1=some q→q<wr.heap.size:=fun q hq=>by{rw [hbr2.cell (p:=⟨ib,v,none⟩) (by simp only;omega)] at r1;obtain ⟨xs,hX⟩:=hI1.1.rowAt r1;exact (hX.lt q hq).2};have hx2:∀ q,Qab A2=some q→q<wr.heap.size:=fun q hq=>by{rw [hbr2.cell (p:=⟨ob,u,none⟩) (by simp only;omega)] at r2;obtain ⟨xs,hX⟩:=hI1.2.1.rowAt r2;exact (hX.lt q hq).2};clear hI1
      have HSX:=Zh (show ∀ V,(Blk V (w.heap.size+4) 189 #[.slice A n c,.slice (some ⟨b,o,none⟩) m d,.slice C k e,.slice (some ⟨ib,0,none⟩) n n,.slice (some ⟨ob,0,none⟩) n n,.slice (some ⟨pb,0,none⟩) m m]∧Blk V wr.heap.size 186 #[.int .i64 u,.int .i64 v,.int .i64 z]∧V.cell? ⟨ib,v,none⟩=some (.slice A1 la.length c1)∧V.cell? ⟨ob,u,none⟩=some (.slice A2 lb.length c2))→V.cell? ⟨w.heap.size+4,1,none⟩=some (.slice (some ⟨b,o,none⟩) m d)∧V.cell? ⟨w.heap.size+4,3,none⟩=some (.slice (some ⟨ib,0,none⟩) n n)∧V.cell? ⟨w.heap.size+4,4,none⟩=some (.slice (some ⟨ob,0,none⟩) n n)∧V.cell? ⟨w.heap.size+4,5,none⟩=some (.slice (some ⟨pb,0,none⟩) m m)∧V.cell? ⟨wr.heap.size,0,none⟩=some (.int .i64 u)∧V.cell? ⟨wr.heap.size,1,none⟩=some (.int .i64 v)∧V.cell? ⟨ib,v,none⟩=some (.slice A1 la.length c1)∧V.cell? ⟨ob,u,none⟩=some (.slice A2 lb.length c2)
       from fun V hV=>⟨hV.1.six.2.1,hV.1.six.2.2.2.1,hV.1.six.2.2.2.2.1,hV.1.six.2.2.2.2.2,hV.2.1.three.1,hV.2.1.three.2.1,hV.2.2.1,hV.2.2.2⟩)
      obtain ⟨⟨z0,p0⟩,pf0⟩:=hP2.cell (i:=j*2) (by omega);obtain ⟨⟨z1,p1⟩,pf1⟩:=hP2.cell (i:=j*2+1) (by omega);refine wp_region_held_drew (S:=fun V=>Blk V (w.heap.size+4) 189 #[.slice A n c,.slice (some ⟨b,o,none⟩) m d,.slice C k e,.slice (some ⟨ib,0,none⟩) n n,.slice (some ⟨ob,0,none⟩) n n,.slice (some ⟨pb,0,none⟩) m m]∧Blk V wr.heap.size 186 #[.int .i64 u,.int .i64 v,.int .i64 z]∧V.cell? ⟨ib,v,none⟩=some (.slice A1 la.length c1)∧V.cell? ⟨ob,u,none⟩=some (.slice A2 lb.length c2)) (by kernel_rfl) ⟨hG2.drew,hX2.drew,r1,r2⟩ (fun _=>?_);refine tzd 0 29 ?_;refine tzd 4 33 ?_;refine tzd 8 37 ?_;refine tzd 12 41 ?_;refine tzd 16 45 ?_;refine tzd 20 49 ?_;refine tz 24 53 ?_;clear HSX;obtain ⟨W4,hW4⟩:=Zx (((W2.setCell ⟨pb,j*2,none⟩ (.int .i64 (la.length:Int))).setCell ⟨pb,j*2+1,none⟩ (.int .i64 (lb.length:Int))).drew)
      have HP4:=Zh (show PlO W4 pb m N.ar (j+1) from by
       have:=hP2.next hlt HX.out;rw [HPN.out] at this;rw [hW4];exact this)
      have HI4:=Zh (show Ik2 W4 (w.heap.size+5) ib ob n (Qkk (·.2.1) (N.ar.take j) n) (Qkk (·.1) (N.ar.take j) n) from by
       rw [hW4];exact (hI2.set (b:=pb) (i:=j*2) (Ne.symm nip) (Ne.symm nop) (by omega) (.int .i64 (la.length:Int))).set (b:=pb) (i:=j*2+1) (Ne.symm nip) (Ne.symm nop) (by omega) (.int .i64 (lb.length:Int)))
      (have hGW4:Blk W4 (w.heap.size+4) 189 #[.slice A n c,.slice (some ⟨b,o,none⟩) m d,.slice C k e,.slice (some ⟨ib,0,none⟩) n n,.slice (some ⟨ob,0,none⟩) n n,.slice (some ⟨pb,0,none⟩) m m]:=by rw [hW4];exact (hG2.far_ (by omega) _).far_ (by omega) _);(have hXW4:Blk W4 wr.heap.size 186 #[.int .i64 u,.int .i64 v,.int .i64 z]:=by rw [hW4];exact (hX2.far_ (by omega) _).far_ (by omega) _);have r1':W4.cell? ⟨ib,v,none⟩=some (.slice A1 la.length c1):=by{rw [hW4,World.cell?_drew,World.cell?_setCell_other _ _ _ _ (fun e=>nip (by injection e with e1;exact e1.symm)),World.cell?_setCell_other _ _ _ _ (fun e=>nip (by injection e with e1;exact e1.symm))];exact r1};have r2':W4.cell? ⟨ob,u,none⟩=some (.slice A2 lb.length c2):=by{rw [hW4,World.cell?_drew,World.cell?_setCell_other _ _ _ _ (fun e=>nop (by injection e with e1;exact e1.symm)),World.cell?_setCell_other _ _ _ _ (fun e=>nop (by injection e with e1;exact e1.symm))];exact r2};(have hblW4:Below w.heap.size w W4:=by rw [hW4];exact Qah);(have hszW4:wr.heap.size<W4.heap.size:=hXW4.lt);refine Zk 25 (fun K hK=>?_);go_simp;refine hK.out _ _ ⟨(hG2.far_ (by omega) _).far_ (by omega) _,(hX2.far_ (by omega) _).far_ (by omega) _,by rw [hW4] at r1';exact r1',by rw [hW4] at r2';exact r2'⟩ (fun _=>?_);clear hK K;refine Zd ?_;rw [←hW4];clear hW4 p0 p1 pf0 pf1 hP2 hI2 hG2 hX2 r1 r2 hbr2;have r1:=r1';have r2:=r2';have hIW4:=HI4.out;have hPW4:=HP4.out;clear r1' r2' HI4 HP4
      have HSX:=Zh (show ∀ V,(Blk V (w.heap.size+4) 189 #[.slice A n c,.slice (some ⟨b,o,none⟩) m d,.slice C k e,.slice (some ⟨ib,0,none⟩) n n,.slice (some ⟨ob,0,none⟩) n n,.slice (some ⟨pb,0,none⟩) m m]∧Blk V wr.heap.size 186 #[.int .i64 u,.int .i64 v,.int .i64 z])→V.cell? ⟨w.heap.size+4,3,none⟩=some (.slice (some ⟨ib,0,none⟩) n n)∧V.cell? ⟨w.heap.size+4,4,none⟩=some (.slice (some ⟨ob,0,none⟩) n n)∧V.cell? ⟨wr.heap.size,0,none⟩=some (.int .i64 u)∧V.cell? ⟨wr.heap.size,1,none⟩=some (.int .i64 v)
       from fun V hV=>⟨hV.1.six.2.2.2.1,hV.1.six.2.2.2.2.1,hV.2.three.1,hV.2.three.2.1⟩)
      (go_wp2_with fail);refine wp_region_held_drew (S:=fun V=>Blk V (w.heap.size+4) 189 #[.slice A n c,.slice (some ⟨b,o,none⟩) m d,.slice C k e,.slice (some ⟨ib,0,none⟩) n n,.slice (some ⟨ob,0,none⟩) n n,.slice (some ⟨pb,0,none⟩) m m]∧Blk V wr.heap.size 186 #[.int .i64 u,.int .i64 v,.int .i64 z]) (by kernel_rfl) ⟨hGW4.drew,hXW4.drew⟩ (fun _=>?_);refine tzd 0 54 ?_;refine tzd 4 58 ?_;refine tzd 8 62 ?_;refine tz 12 66 ?_;refine tz 14 68 ?_;refine wpAnyH_ready (rs:=[13,15]) (by kernel_rfl) (by simp) ?_;refine AllReadyH.cons (o:=_) rfl (fun K hK=>?_) (AllReadyH.cons (o:=_) rfl (fun K hK=>?_) AllReadyH.nil)
      focus
       go_simp;refine hK.out _ _ ⟨hGW4.drew,hXW4.drew⟩ (fun _=>?_);clear hK K;refine Zk 15 (fun K hK=>?_);go_simp;refine hK.out _ _ ⟨(hGW4.alloc _).drew,(hXW4.alloc _).drew⟩ (fun _=>?_);clear hK K
      rotate_left
      focus
       go_simp;refine hK.out _ _ ⟨(hGW4.alloc _).drew,(hXW4.alloc _).drew⟩ (fun _=>?_);clear hK K;have r1a:=fun o=>Zc (show Below W4.heap.size W4 (W4.alloc o) from Qah) (Zn _) r1
       refine Zk 13 (fun K hK=>?_);go_simp;refine hK.out _ _ ⟨(hGW4.alloc _).drew,(hXW4.alloc _).drew⟩ (fun _=>?_);clear hK K r1a
      all_goals
       obtain ⟨WA,hWA⟩:=Zx ((W4.alloc (.cells #[.int .i64 (j:Int)] 3)).drew);rw [←hWA];have hbA:Below W4.heap.size W4 WA:=by rw [hWA];exact Qah
       have hrA:Rds WA 1 (some ⟨W4.heap.size,0,none⟩) 1 (Qag [(j:Int)]):=by rw [hWA];exact (Blk.new W4 3 (Qcf [(j:Int)])).rds rfl
       clear hWA;have hIA:=hIW4.below hbA;have hGA:=hGW4.below hbA hGW4.lt;have hXA:=hXW4.below hbA hXW4.lt;have hPA:=hPW4.below hbA;have hblA:=Zb hblW4 hbA;have hcA:=Zc hbA (Zn _) r1
       have hoA:Own WA (w.heap.size+5) 3 1 A1 la.length c1 (Qag la):=by
        obtain ⟨A9,c9,l9,e1,e2,_,e4⟩:=hIA.1.row hvn;rw [HL1.out] at e1
        cases e1
        rw [hcA] at e2
        cases e2
        exact e4
       have hszA:=hbA.size;refine Zk 16 (fun K hK=>?_);with_reducible refine Qax (some 70) rfl rfl (.tmp 67) (.tmp 69) 61 rfl 3 _ 1 8 Qbo underlying61 rfl (by omega) rfl rfl hoA hrA (Qao _) (by omega) (by omega) (by omega) ?_
       intro A' c' w' hown' hg hat;have hG':=hGA.grown hg (hoA.ne (by omega));have hX':=hXA.grown hg (fun e=>by have:=hx1 _ e;omega);have hP':=hPA.grown hg (hoA.ne (by omega));have hb':Below w.heap.size w w':=Zo hblA hg (hoA.mono (by omega)) (by omega);have HI':=Zh (hIA.push (HL1.out) hcA hown' hg hat);have hz':=hg.size;obtain ⟨xf,hfv,hff⟩:=hIA.1.cellG hvn hg (hoA.ne (by omega))
       have r2n:w'.cell? ⟨ob,u,none⟩=some (.slice A2 lb.length c2):=by
        rw [World.cell?_of_block (hg.block ob (by omega) (fun e=>hoA.ne (g:=ob) (by omega) e.symm))];exact Zc hbA (Zn _) r2
       clear hGA hXA hPA hIA hoA hrA hcA hown' hg hat hbA hblA;refine hK.out _ _ ⟨hG',hX'⟩ (fun _=>?_);clear hK K;simp only [Act.put,Yi,Yj,Yk];refine tz 17 71 ?_;refine Zk 18 (fun K hK=>?_);go_simp;refine hK.out _ _ ⟨hG'.far_ (by omega) _,hX'.far_ (by omega) _⟩ (fun _=>?_);clear hK K;refine Zd ?_;obtain ⟨W5,hwW5⟩:=Zx (w'.setCell ⟨ib,v,none⟩ (.slice A' (la.length+1) c'));rw [←hwW5];have hGW5:Blk W5 (w.heap.size+4) 189 #[.slice A n c,.slice (some ⟨b,o,none⟩) m d,.slice C k e,.slice (some ⟨ib,0,none⟩) n n,.slice (some ⟨ob,0,none⟩) n n,.slice (some ⟨pb,0,none⟩) m m]:=by rw [hwW5];exact hG'.far_ (by omega) _
       have hXW5:Blk W5 wr.heap.size 186 #[.int .i64 u,.int .i64 v,.int .i64 z]:=by rw [hwW5];exact hX'.far_ (by omega) _
       have hPW5:PlO W5 pb m N.ar (j+1):=by rw [hwW5];exact hP'.grown (Qad _ _ _ _) (fun e=>by injection e;omega)
       have hIW5:=HI'.out;rw [←hwW5,HN1.out] at hIW5;have hblW5:Below w.heap.size w W5:=by rw [hwW5];exact hb'.setCell (by simp only;omega) _
       have hszW5:w.heap.size+5≤W5.heap.size:=by rw [hwW5];simp [World.setCell];omega
       have hwxW5:wr.heap.size<W5.heap.size:=hXW5.lt
       have r2m:W5.cell? ⟨ob,u,none⟩=some (.slice A2 lb.length c2):=by
        rw [hwW5,World.cell?_setCell_other _ _ _ _ (fun e=>nio (by injection e))];exact r2n
       clear r2n r1 r2;have r2:=r2m;clear hwW5 hG' hX' hP' HI' hb' hfv hff;have hIW5s:=hIW5.swap;clear hIW5;have hIW5:=hIW5s;clear r2m
       go_wp2_with fail
       refine wp_region_held_drew (S:=fun V=>Blk V (w.heap.size+4) 189 #[.slice A n c,.slice (some ⟨b,o,none⟩) m d,.slice C k e,.slice (some ⟨ib,0,none⟩) n n,.slice (some ⟨ob,0,none⟩) n n,.slice (some ⟨pb,0,none⟩) m m]∧Blk V wr.heap.size 186 #[.int .i64 u,.int .i64 v,.int .i64 z]) (by kernel_rfl) ⟨hGW5.drew,hXW5.drew⟩ (fun _=>?_);refine tzd 0 72 ?_;refine tzd 4 76 ?_;refine tzd 8 80 ?_;refine tz 12 84 ?_;refine tz 14 86 ?_;refine wpAnyH_ready (rs:=[13,15]) (by kernel_rfl) (by simp) ?_;refine AllReadyH.cons (o:=_) rfl (fun K hK=>?_) (AllReadyH.cons (o:=_) rfl (fun K hK=>?_) AllReadyH.nil)
       focus
        go_simp;refine hK.out _ _ ⟨hGW5.drew,hXW5.drew⟩ (fun _=>?_);clear hK K;refine Zk 15 (fun K hK=>?_);go_simp;refine hK.out _ _ ⟨(hGW5.alloc _).drew,(hXW5.alloc _).drew⟩ (fun _=>?_);clear hK K
       rotate_left
       focus
        go_simp;refine hK.out _ _ ⟨(hGW5.alloc _).drew,(hXW5.alloc _).drew⟩ (fun _=>?_);clear hK K;have r2a:=fun o=>Zc (show Below W5.heap.size W5 (W5.alloc o) from Qah) (Zn _) r2
        refine Zk 13 (fun K hK=>?_);go_simp;refine hK.out _ _ ⟨(hGW5.alloc _).drew,(hXW5.alloc _).drew⟩ (fun _=>?_);clear hK K r2a
       all_goals
        obtain ⟨WA,hWA⟩:=Zx ((W5.alloc (.cells #[.int .i64 (j:Int)] 3)).drew);rw [←hWA];have hbA:Below W5.heap.size W5 WA:=by rw [hWA];exact Qah
        have hrA:Rds WA 1 (some ⟨W5.heap.size,0,none⟩) 1 (Qag [(j:Int)]):=by rw [hWA];exact (Blk.new W5 3 (Qcf [(j:Int)])).rds rfl
        clear hWA;have hIA:=hIW5.below hbA;have hGA:=hGW5.below hbA hGW5.lt;have hXA:=hXW5.below hbA hXW5.lt;have hPA:=hPW5.below hbA;have hblA:=Zb hblW5 hbA;have hcA:=Zc hbA (Zn _) r2
        have hoA:Own WA (w.heap.size+5) 3 1 A2 lb.length c2 (Qag lb):=by
         obtain ⟨A9,c9,l9,e1,e2,_,e4⟩:=hIA.1.row hu;rw [HL2.out] at e1
         cases e1
         rw [hcA] at e2
         cases e2
         exact e4
        have hszA:=hbA.size;refine Zk 16 (fun K hK=>?_);with_reducible refine Qax (some 88) rfl rfl (.tmp 85) (.tmp 87) 61 rfl 3 _ 1 8 Qbo underlying61 rfl (by omega) rfl rfl hoA hrA (Qao _) (by omega) (by omega) (by omega) ?_
        intro A' c' w' hown' hg hat;have hG':=hGA.grown hg (hoA.ne (by omega));have hX':=hXA.grown hg (fun e=>by have:=hx2 _ e;omega);have hP':=hPA.grown hg (hoA.ne (by omega));have hb':Below w.heap.size w w':=Zo hblA hg (hoA.mono (by omega)) (by omega);have HI':=Zh (hIA.push (HL2.out) hcA hown' hg hat);have hz':=hg.size;obtain ⟨xf,hfv,hff⟩:=hIA.1.cellG hu hg (hoA.ne (by omega));clear hGA hXA hPA hIA hoA hrA hcA hown' hg hat hbA hblA;refine hK.out _ _ ⟨hG',hX'⟩ (fun _=>?_);clear hK K;simp only [Act.put,Yi,Yj,Yk];refine tz 17 89 ?_;refine Zk 18 (fun K hK=>?_);go_simp;refine hK.out _ _ ⟨hG'.far_ (by omega) _,hX'.far_ (by omega) _⟩ (fun _=>?_);clear hK K;refine Zd ?_;obtain ⟨W6,hwW6⟩:=Zx (w'.setCell ⟨ob,u,none⟩ (.slice A' (lb.length+1) c'));rw [←hwW6];have hGW6:Blk W6 (w.heap.size+4) 189 #[.slice A n c,.slice (some ⟨b,o,none⟩) m d,.slice C k e,.slice (some ⟨ib,0,none⟩) n n,.slice (some ⟨ob,0,none⟩) n n,.slice (some ⟨pb,0,none⟩) m m]:=by rw [hwW6];exact hG'.far_ (by omega) _
        have hXW6:Blk W6 wr.heap.size 186 #[.int .i64 u,.int .i64 v,.int .i64 z]:=by rw [hwW6];exact hX'.far_ (by omega) _
        have hPW6:PlO W6 pb m N.ar (j+1):=by rw [hwW6];exact hP'.grown (Qad _ _ _ _) (fun e=>by injection e;omega)
        have hIW6:=HI'.out;rw [←hwW6,HN2.out] at hIW6;have hblW6:Below w.heap.size w W6:=by rw [hwW6];exact hb'.setCell (by simp only;omega) _
        have hszW6:w.heap.size+5≤W6.heap.size:=by rw [hwW6];simp [World.setCell];omega
        have hwxW6:wr.heap.size<W6.heap.size:=hXW6.lt
        clear hwW6 hG' hX' hP' HI' hb' hfv hff
        go_wp2_with fail
        go_roundw
        case rel=>exact ⟨hszW6,hblW6,hGW6,j+1,by omega,by go_num,hIW6.swap,hPW6⟩
        case measure=>simp [intOf];omega
    · (obtain rfl:m=j:=by omega);rw [Ye (by rw [HLA.out];exact Zn _)] at hI;have hNr:=HH.out.below hbl;have hzz:=hbl.size
      have HGR:=Zh (show GrO wr (fun b=>G b∨Qab B=some b∨Qab C=some b∨(w.heap.size≤b∧b<wr.heap.size)) (w.heap.size+4) N from by
       refine ⟨fun b=>G b∨(w.heap.size≤b∧b<wr.heap.size),A,B,C,some ⟨ib,0,none⟩,some ⟨ob,0,none⟩,some ⟨pb,0,none⟩,n,m,k,c,d,e,n,n,m,?_⟩
       have kb:∀ b,Qab B=some b→¬(G b∨(w.heap.size≤b∧b<wr.heap.size)):=fun b hb hc=>by
        rcases hc with hc|hc
        · exact HH.out.ga b hb hc
        · have:=(HH.out.wa b hb).1;omega
       have kc:∀ b,Qab C=some b→¬(G b∨(w.heap.size≤b∧b<wr.heap.size)):=fun b hb hc=>by
        rcases hc with hc|hc
        · exact HH.out.gt b hb hc
        · have:=(HH.out.wt b hb).1;omega
       refine ⟨hNr.mono (fun b hb=>.inl hb) kb kc,hG,.inr ⟨by omega,by omega⟩,?_,?_,?_,?_,?_,HN.out,HCC.out.1,HCC.out.2.1,HCC.out.2.2⟩
       · exact hI.1.rdM (.inr ⟨by omega,by omega⟩) (fun b h1 h2=>.inr ⟨by omega,h2⟩)
       · exact hI.2.1.rdM (.inr ⟨by omega,by omega⟩) (fun b h1 h2=>.inr ⟨by omega,h2⟩)
       · exact (hP.rdP HLA.out).msk (fun b hb=>by have:=Qhc hb;exact .inr ⟨by omega,by omega⟩)
       · rintro b ((hb|hb)|hb|hb)
         · exact .inl hb
         · exact .inr (.inr (.inr hb))
         · exact .inr (.inl hb)
         · exact .inr (.inr (.inl hb))
       · rintro b (hb|hb|hb|hb)
         · have:=HGW.out b hb;omega
         · have:=(HH.out.wa b hb).1;omega
         · have:=(HH.out.wt b hb).1;omega
         · exact hb.2)
      clear hI hP hG hNr;(go_wp2_with fail);go_ret;exact ⟨_,rfl,HGR.out,hbl⟩
theorem GrO.mono {W:World}{F F':Nat→Prop}{g:Nat}{N:Qam}(h:GrO W F g N)(hs:∀ b,F b→F' b)(hl:∀ b,F' b→b<W.heap.size):GrO W F' g N:=by obtain ⟨G,A,B,C,I,O,P,n,m,k,c,d,e,ci,co,cp,h⟩:=h;exact ⟨G,A,B,C,I,O,P,n,m,k,c,d,e,ci,co,cp,h.net,h.blk,h.gg,h.ins,h.outs,h.plc,fun b hb=>hs b (h.sub b hb),hl,h.ok,h.c0,h.c1,h.c2⟩
theorem Qap.costs {N:Qam}(h:Qap N):∀ t∈N.ts,t.costs.length≤1000000:=fun t ht=>by have hT:=h.tabs t ht;have hm:=Qpp hT.i0 hT.i16 hT.o0 hT.o16;have:=hT.len;omega
set_option maxHeartbeats 1000000 in
theorem Qri (A B C:Option Addr)(n m k c d e:Nat)(N:Qam)(w:World)(h:Qbz w A B C n m k N)(hN:Qap N) :
 Calls prog 87 #[.agg #[.slice A n c,.slice B m d,.slice C k e]] w fun r w'=>∃ g,r=.returned (.tuple #[.pointer (some ⟨g,0,none⟩),.nilIface])∧GrO w' (fun b=>w.heap.size≤b∧b<w'.heap.size) g N∧Below w.heap.size w w':=by
 have HH:=Zh h;have HN:=Zh hN;have hn:n≤4096:=by rw [←h.1.1];exact hN.lv
 have hm:m≤16384:=by rw [←h.2.1.1];exact hN.la
 have hk:k≤256:=by rw [←h.2.2.1];exact hN.lt
 clear h hN;go_enter func87,ntmps87
 go_wp2_with fail
 (refine Qac ?_;intro w1 hw1);have hb1:Below w.heap.size w w1:=by rw [hw1];exact Qah
 have hJ:Blk w1 w.heap.size 177 #[.slice A n c,.slice B m d,.slice C k e]:=by rw [hw1];exact Qbi
 clear hw1;with_reducible refine (Qrs A B C n m k c d e N w1 (HH.out.below hb1) HN.out).mono ?_
 rintro r w2 ⟨rfl,hb2⟩;have hbw2:=Zb hb1 hb2;obtain ⟨j0,j1,j2⟩:=(hJ.below hb2 hJ.lt).three;clear hJ hb2;go_wp2_with fail
 with_reducible refine (Qls A B C n m k c d e N w2 (HH.out.below hbw2) (by omega) (by omega) (by omega) HN.out.costs).mono ?_
 rintro r w3 ⟨A',B',C',c',d',e',rfl,hR,hbc,q1,q2,q3,q4,q5,q6,hb3⟩;have hbw3:=Zb hbw2 hb3;have HC:=Zh (Qws _ A' B' C' n m k c' d' e' N w3 hR (fun b hb=>hb.2.1) HN.out ⟨q1,q2⟩ ⟨q3,q4⟩ ⟨q5,q6⟩);have HBC:=Zh hbc;have HWA:=Zh hR.wa;have HWT:=Zh hR.wt;clear hR hbc q1 q2 q3 q4 q5 q6 j0 j1 j2;go_wp2_with fail
 with_reducible refine HC.out.mono ?_
 rintro r w4 ⟨g,rfl,hG,hb4⟩;have HG:=Zh hG;clear hG HC;go_wp2_with fail
 go_ret2
 have h1:=hbw2.size;have h3:=hb3.size;have h4:=hb4.size;refine ⟨g,rfl,HG.out.mono (fun b hb=>?_) (fun b hb=>hb.2),Zb hbw3 hb4⟩;rcases hb with hb|hb|hb|hb
 {exact ⟨by omega,by omega⟩};{have z1:=HBC.out b (.inl hb);have z2:=(HWA.out b hb).1;exact ⟨by omega,by omega⟩};{have z1:=HBC.out b (.inr hb);have z2:=(HWT.out b hb).1;exact ⟨by omega,by omega⟩};{exact ⟨by omega,by omega⟩}
set_option maxHeartbeats 1000000 in
theorem Qtm (A B C:Option Addr)(n m k c d e:Nat)(N:Qam)(w:World)(h:Qbz w A B C n m k N)(hN:Qap N) :
 Calls prog 39 #[.agg #[.slice A n c,.slice B m d,.slice C k e]] w fun r w'=>∃ g,r=.returned (.pointer (some ⟨g,0,none⟩))∧GrO w' (fun b=>w.heap.size≤b∧b<w'.heap.size) g N∧Below w.heap.size w w':=by
 have HH:=Zh h;have HN:=Zh hN;have hn:n≤4096:=by rw [←h.1.1];exact hN.lv
 have hm:m≤16384:=by rw [←h.2.1.1];exact hN.la
 have hk:k≤256:=by rw [←h.2.2.1];exact hN.lt
 clear h hN;go_enter func39,ntmps39
 go_wp2_with fail
 (refine Qac ?_;intro w1 hw1);have hb1:Below w.heap.size w w1:=by rw [hw1];exact Qah
 clear hw1;with_reducible refine (Qyl A B C n m k c d e N w1 (HH.out.below hb1) (by omega) (by omega) (by omega) HN.out.costs).mono ?_
 rintro r w2 ⟨A',B',C',c',d',e',rfl,hR,hb2⟩;have hbw2:=Zb hb1 hb2;have HC:=Zh (Qri A' B' C' n m k c' d' e' N w2 hR HN.out);clear hR;go_wp2_with fail
 with_reducible refine HC.out.mono ?_
 rintro r w3 ⟨g,rfl,hG,hb3⟩;have HG:=Zh hG;clear hG HC;go_wp2_with fail
 go_ret;have h1:=hbw2.size;exact ⟨g,rfl,HG.out.mono (fun b hb=>⟨by omega,hb.2⟩) (fun b hb=>hb.2),Zb hbw2 hb3⟩
theorem Own.keep {w w':World}{B s n c:Nat}{e:TypeId}{A:Option Addr}{xs:List Value}(h:Own w B e s A n c xs) (hk:∀ b,Qab A=some b→w'.heap[b]?=w.heap[b]?):Own w' B e s A n c xs:=by
 refine ⟨h.1,?_⟩;rcases h.2 with h'|⟨g,cap,cur,h1,h2,h3,h4⟩
 {exact .inl h'};{refine .inr ⟨g,cap,cur,h1,h2,?_,h4⟩;cases h1;exact (hk g rfl).trans h3}
theorem RdK.keepB {k:IntKind}{w w':World}{A:Option Addr}{n:Nat}{l:List Int}(h:RdK k w A n l) (hk:∀ b,Qab A=some b→w'.heap[b]?=w.heap[b]?):RdK k w' A n l :=
 ⟨h.1,fun i x hx=>by
  obtain ⟨b,o,e,hc⟩:=h.2 i x hx;exact ⟨b,o,e,Qds (hk b (by rw [e];rfl)) hc⟩⟩
theorem RwL.keep {W W':World}{B n c:Nat}{A:Option Addr}{xs:List Value} {ls:List (List Int)} (h:RwL W B A n c xs ls) (hz:W.heap.size≤W'.heap.size) (hk:∀ b,B≤b→b<W.heap.size→W'.heap[b]?=W.heap[b]?):RwL W' B A n c xs ls :=
 ⟨h.1.keep (fun b hb=>hk b (h.1.lt b hb).1 (h.1.lt b hb).2),h.2.1,fun i l hl=>by
  obtain ⟨A',n',c',p1,h2,h3,h4,h5⟩:=h.2.2 i l hl;exact ⟨A',n',c',p1,h2.keepB (fun g hg=>hk g (h3 g hg).1 (h3 g hg).2.1),fun g hg=>⟨(h3 g hg).1,Yu (h3 g hg).2.1 hz,(h3 g hg).2.2⟩,h4,h5⟩⟩
def szG (x:Qan):Nat:=x.1.length*x.2.length
def Qea (row:List Qan):Nat:=(row.map szG).sum
def Qbw (gs:List (List Qan)):Nat:=(gs.map Qea).sum
theorem sumS_app (r:List Qan)(x:Qan):Qea (r ++[x])=Qea r+szG x:=by simp [Qea]
theorem sumA_app (r:List (List Qan)) (x:List Qan):Qbw (r ++[x])=Qbw r+Qea x:=by simp [Qbw]
theorem Qdi {r:List Qan}{j:Nat}{x:Qan} (h:r[j]?=some x):Qea (r.take (j+1))=Qea (r.take j)+szG x:=by rw [Yf (Zs h).1,(Zs h).2,sumS_app]
theorem Qdh {r:List (List Qan)} {j:Nat} {x:List Qan} (h:r[j]?=some x):Qbw (r.take (j+1))=Qbw (r.take j)+Qea x:=by rw [Yf (Zs h).1,(Zs h).2,sumA_app]
def Qif (s:Nat)(row:List Qan):List Int:=(List.range row.length).map (fun j:Nat=>((s+Qea (row.take j):Nat):Int))
theorem Qfq (s:Nat)(row:List Qan):(Qif s row).length=row.length:=by simp [Qif]
theorem Qqa {s j:Nat}{row:List Qan}(h:j<row.length):(Qif s row)[j]?=some ((s+Qea (row.take j):Nat):Int):=by unfold Qif;rw [Yt,List.getElem?_range h];rfl
def Qvs (gs:List (List Qan)):List (List Int):=(List.range gs.length).map (fun i:Nat=>Qif (Qbw (gs.take i)) (gs.getD i []))
theorem Qze (gs:List (List Qan)):(Qvs gs).length=gs.length:=by simp [Qvs]
theorem Qpz {gs:List (List Qan)} {i:Nat} {row:List Qan} (h:gs[i]?=some row):(Qvs gs)[i]?=some (Qif (Qbw (gs.take i)) row):=by unfold Qvs;rw [Yt,List.getElem?_range (Zs h).1,Option.map_some,Ya,h];rfl
theorem Qvt {s j:Nat}{row:List Qan}(h:j<row.length):((Qif s row).take j ++List.replicate (row.length-j) 0).set j ((s+Qea (row.take j):Nat):Int)=(Qif s row).take (j+1) ++List.replicate (row.length-(j+1)) 0:=by
 have hl:((Qif s row).take j).length=j:=by rw [Yw,Qfq];omega
 have e:=Qqa (s:=s) h;rw [List.set_append_right _ _ (by rw [hl];exact Zn _),hl,Yy,Yf (by rw [Qfq];exact h),(Zs e).2];obtain ⟨m,hm⟩:∃ m,row.length-j=m+1:=⟨row.length-j-1,by omega⟩;rw [hm,show row.length-(j+1)=m by omega];simp [List.replicate_succ]
structure OvV (W:World) (o:Nat) (Q F T G S:Option Addr) (L m cq cf ct cg cs:Nat) (ar:List Tri) (ls:List (List Int)):Prop where
 n0:W.cell? ⟨o,0,none⟩=some (.slice Q L cq)
 n1:W.cell? ⟨o,1,none⟩=some (.slice F m cf)
 n2:W.cell? ⟨o,2,none⟩=some (.slice T m ct)
 n3:W.cell? ⟨o,3,none⟩=some (.slice G L cg)
 n4:W.cell? ⟨o,4,none⟩=some (.slice S L cs)
 n5:W.cell? ⟨o,5,none⟩=some (.int .i64 ((Qbw (Qae ar ls):Nat):Int))
 part:RdT W Q L ls
 fr:RdI W F m (ar.map (·.1))
 to:RdI W T m (ar.map (·.2.1))
 gates:RdG W G L (Qae ar ls)
 starts:RdT W S L (Qvs (Qae ar ls))
 c0:L≤cq∧cq≤9223372036854775807
def Qgh (W:World)(o:Nat)(ar:List Tri) (ls:List (List Int)):Prop:=∃ (Q F T G S:Option Addr) (L m cq cf ct cg cs:Nat),OvV W o Q F T G S L m cq cf ct cg cs ar ls
theorem Qgh.le {W W':World}{o:Nat}{ar:List Tri} {ls:List (List Int)} (h:Qgh W o ar ls) (hl:Le W W'):Qgh W' o ar ls:=by obtain ⟨Q,F,T,G,S,L,m,cq,cf,ct,cg,cs,h⟩:=h;exact ⟨Q,F,T,G,S,L,m,cq,cf,ct,cg,cs,hl _ _ h.n0,hl _ _ h.n1,hl _ _ h.n2,hl _ _ h.n3,hl _ _ h.n4,hl _ _ h.n5,h.part.le hl,h.fr.le hl,h.to.le hl,h.gates.le hl,h.starts.le hl,h.c0⟩
theorem Qgh.below {W W':World}{o:Nat}{ar:List Tri} {ls:List (List Int)} (h:Qgh W o ar ls) (hb:Below W.heap.size W W'):Qgh W' o ar ls:=h.le (Le.below hb)
theorem Qbl {ar:List Tri}{l:List Int}{c:Nat}{x:Qan} (h:(Qaf ar l)[c]?=some x):x.1.length≤ar.length∧x.2.length≤ar.length:=by
 have hc:c<(Qar l).toNat:=by rw [←Qaq ar l];exact (Zs h).1
 rw [Qco hc] at h;cases h;exact ⟨Yx (List.length_filter_le _ _) (Qfv _ _),Yx (List.length_filter_le _ _) (Qfv _ _)⟩
theorem Qtx {l:List Nat}{b:Nat}(h:∀ x∈l,x≤b):l.sum≤l.length*b:=by
 induction l with
 | nil=>simp
 | cons x t ih =>have h1:=h x (List.mem_cons_self ..);have h2:=ih (fun y hy=>h y (List.mem_cons_of_mem _ hy));simp only [List.sum_cons,List.length_cons,Nat.add_mul,Nat.one_mul];omega
theorem Qzi {ar:List Tri}{l:List Int}{j n:Nat}(ha:ar.length≤16384)(hl:Qgg n l)(hn:n≤4096):Qea ((Qaf ar l).take j)≤4096*268435456:=by unfold Qea;refine Yx (Qtx (b:=268435456) (fun y hy=>?_)) ?_;{obtain ⟨x,hx,rfl⟩:=List.mem_map.1 hy;obtain ⟨c,hc⟩:=Yr (List.mem_of_mem_take hx);have h1:=Qbl hc;unfold szG;exact Yx (Nat.mul_le_mul (show x.1.length≤16384 by omega) (show x.2.length≤16384 by omega)) (by omega)};{refine Nat.mul_le_mul_right _ ?_;rw [List.length_map,Yw,Qaq];have:=Qcg (l:=l) (n:=(n:Int)) (fun x hx=>hl.hi x hx) (by omega);omega}
theorem sumA_le {ar:List Tri} {ls:List (List Int)} {i n:Nat} (ha:ar.length≤16384) (hP:Qat n ls) (hn:n≤4096):Qbw ((Qae ar ls).take i)≤6*(4096*268435456):=by unfold Qbw;refine Yx (Qtx (b:=4096*268435456) (fun y hy=>?_)) ?_;{obtain ⟨row,hrow,rfl⟩:=List.mem_map.1 hy;have hm:=List.mem_of_mem_take hrow;unfold Qae at hm;obtain ⟨l,hl,rfl⟩:=List.mem_map.1 hm;have:=Qzi (j:=(Qaf ar l).length) ha (hP.lvl l hl) hn;rw [List.take_length] at this;exact this};{refine Nat.mul_le_mul_right _ ?_;have:=hP.l6;simp [Qae];omega}
end Go.Proofs.YtdheeddnkdhfeaaGreatDoor
