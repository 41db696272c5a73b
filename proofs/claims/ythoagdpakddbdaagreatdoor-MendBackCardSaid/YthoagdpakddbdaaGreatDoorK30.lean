/- Parts of the proof: Sf, MeG, NtS. -/
import Derived.Test.YthoagdpakddbdaaGreatDoorK1
import Derived.Test.YthoagdpakddbdaaGreatDoorK10
import Derived.Test.YthoagdpakddbdaaGreatDoorK13
import Derived.Test.YthoagdpakddbdaaGreatDoorK19
import Derived.Test.YthoagdpakddbdaaGreatDoorK28
import Derived.Test.YthoagdpakddbdaaGreatDoorK29
namespace Go.Proofs.YthoagdpakddbdaaGreatDoor
open Go.RowKit Go.Proofs.Tryz
theorem sumA_few {N:Qaj} {ls:List (List Int)} (h:MayOk N ls):Qbo (gatesOf N.ar ls)≤1000000000:=by
 have hA:=h.small.a;have hv:=h.small.v;have h6:=h.part.l6
 have hx:∀ x∈(gatesOf N.ar ls).map Qde,x≤194400:=fun z hz=>by
  obtain ⟨row,hr,rfl⟩:=List.mem_map.1 hz;obtain ⟨l,hl,rfl⟩:=List.mem_map.1 hr
  have hm:∀ y∈(gateRow N.ar l).map szG,y≤8100:=fun y hy=>by
   obtain ⟨x,hx,rfl⟩:=List.mem_map.1 hy;obtain ⟨c,hc⟩:=List.getElem?_of_mem hx;have g:=Qbk hc;unfold szG;have:=Nat.mul_le_mul (show x.1.length≤90 by omega) (show x.2.length≤90 by omega)
   omega
  have h1:=Qqq hm;have h2:=h.part.lvl l hl;have h3:=Qcd (l:=l) (n:=(N.vs.length:Int)) (fun x hx=>h2.hi x hx) (by omega);rw [List.length_map,Qan] at h1;have h4:(Qam l).toNat*8100≤24*8100:=Nat.mul_le_mul_right _ (by omega);unfold Qde;omega
 have h1:=Qqq hx;rw [List.length_map,show (gatesOf N.ar ls).length=ls.length by simp [gatesOf]] at h1
 have h4:ls.length*194400≤6*194400:=Nat.mul_le_mul_right _ (by omega);unfold Qbo;omega
structure MdS (W:World) (F G:Nat→Prop) (g o:Nat) (N:Qaj) (ls:List (List Int)) (NC:Nat):Prop where
 go:GO W F G g o N ls
 part:Qcl N.vs.length ls
 nc:NC=Qbo (gatesOf N.ar ls)
 n9:NC≤1000000000
theorem MdS.below {W W':World}{F G:Nat→Prop}{g o NC:Nat}{N:Qaj} {ls:List (List Int)} (h:MdS W F G g o N ls NC) (hb:Below W.heap.size W W'):MdS W' F G g o N ls NC:=⟨h.go.below hb,h.part,h.nc,h.n9⟩
def DoQ (w:World)(F G:Nat→Prop)(g o:Nat)(N:Qaj) (ls:List (List Int)) (NC:Nat) (l:List Chn) (r:Ending) (w':World):Prop :=
 ∃ (B:Nat) (cl:List Int) (F':Nat→Prop),r=.returned (.tuple #[.slice (some ⟨B,0,none⟩) NC NC,.int .i64 ((Qsv (tb ls (Qcz N ls l)):Nat):Int),.nilIface])∧w.heap.size≤B ∧
  Blk w' B 2 (Qad cl).toArray∧Qfe (Qef N l) ls cl∧MdS w' F' G g o (Qef N l) ls NC∧(∀ b,F' b→(F b∨w.heap.size≤b)∧b<B)∧Qaz (fun b=>¬F b) w w'∧w.heap.size≤w'.heap.size∧∀ Bd,Bd≤w.heap.size→(∀ b,F b→Bd≤b)→Below Bd w w'
theorem doQ_ok (w:World)(F G:Nat→Prop)(g o:Nat)(N:Qaj) (ls:List (List Int)) (NC:Nat) (A:Option Addr) (n cA cC B0 B1:Nat) (l:List Chn) (costs:List Int) (h:MdS w F G g o N ls NC) (hB:Blk w B0 2 (Qad costs).toArray) (hF0:¬F B0) (hall:Qfe N ls costs)
 (hown:Own w B1 83 5 A n cA (Qbi l)) (hF1:∀ b,F b→b<B1) (hb:Qbj N l) (hl256:l.length≤256) :
 Calls prog 19 #[.pointer (some ⟨g,0,none⟩),.pointer (some ⟨o,0,none⟩),.slice (some ⟨B0,0,none⟩) NC cC,.slice A n cA] w (DoQ w F G g o N ls NC l):=by
 have hc:RdI (msk w (fun b=>¬F b)) (some ⟨B0,0,none⟩) NC costs:=(hB.msk_ hF0).rdI (by rw [h.nc];exact hall.1);have hl:Qiu (msk w (fun b=>¬F b)) A n l:=hown.rdCm (fun b h1 _ h2=>by have:=hF1 b h2;omega);have hs:=Qcb hb;have:=do_ok w g o F N ls A (some ⟨B0,0,none⟩) n cA cC l costs h.go.gr h.go.ovF h.part (by rw [←h.nc];exact h.n9) (by rw [←h.nc];exact hc) hall hl hb hl256;rw [←h.nc] at this;refine this.mono ?_;rintro r w' ⟨B,cl,F',e,hz,hBk,hA,hF',hG',hK,hsz,hBel⟩;rw [←h.nc] at e;exact ⟨B,cl,F',e,hz,hBk,hA,⟨h.go.step hs.kin hG' hF' hK hsz,by rw [hs.kin.vs];exact h.part,by rw [hs.kin.al.gatesOf];exact h.nc,h.n9⟩,hF',hK,hsz,hBel⟩
def AllQ (w:World)(N:Qaj) (ls:List (List Int)) (NC:Nat) (r:Ending) (w':World):Prop :=
 ∃ (B:Nat) (cl:List Int),r=.returned (.slice (some ⟨B,0,none⟩) NC NC)∧w.heap.size≤B∧Blk w' B 2 (Qad cl).toArray∧Qfe N ls cl∧Below w.heap.size w w'
theorem allQ_ok (w:World)(F G:Nat→Prop)(g o:Nat)(N:Qaj) (ls:List (List Int)) (NC:Nat) (h:MdS w F G g o N ls NC):Calls prog 18 #[.pointer (some ⟨g,0,none⟩),.pointer (some ⟨o,0,none⟩)] w (AllQ w N ls NC):=by
 refine (all_ok w g o N ls h.go.gr.rd h.go.gr.ok h.go.ovR h.part (by rw [←h.nc];exact h.n9)).mono ?_;rintro r w' ⟨B,cl,e,hz,hB,hcl,_,hd,hb⟩;rw [←h.nc] at e;exact ⟨B,cl,e,hz,hB,hd.all hcl,hb⟩
attribute [local go_sem ↓] Go.wp_at_zero Go.wp_at_succ
theorem Qmy:(Tryz.prog.info? 138).map (fun i=>(i.zero,i.size,i.bytes))=some (some (.agg #[.int .i64 0,.int .i64 0,.int .i64 0]),3,24):=by kernel_rfl
theorem Qrf:(Tryz.prog.info? 73).map (fun i=>(i.zero,i.size,i.bytes))=some (some (.agg #[.int .i64 0,.int .i64 0,.int .i64 0]),3,24):=by kernel_rfl
theorem Qhp:(Tryz.prog.info? 75).map (fun i=>(i.zero,i.size,i.bytes))=some (some (.agg #[.int .i64 0,.int .i64 0,.slice none 0 0]),3,40):=by kernel_rfl
set_option maxHeartbeats 1000000 in
theorem Qvq (A:Option Addr)(n c:Nat)(i o:Int)(w:World) :
 Calls prog 97 #[.agg #[.int .i64 i,.int .i64 o,.slice A n c]] w fun e w'=>e=.returned (.agg #[.int .i64 i,.int .i64 o,.slice A n c])∧Below w.heap.size w w':=by
 go_enter func97,ntmps97
 go_wp2_with fail
 refine bodyPost_ret (v:=.agg #[.int .i64 i,.int .i64 o,.slice A n c]) (by simp [results,results97,go_sem]) rfl ?_;exact ⟨rfl,Qae⟩
theorem RdK.grownE {k:IntKind}{w w':World}{A:Option Addr}{n:Nat}{l:List Int}{r:Option Nat}(h:RdK k w A n l)(hg:w.grownBy w' r)(hne:0<n→∀ g,Qab A=some g→r≠some g):RdK k w' A n l:=by
 rcases Nat.eq_zero_or_pos n with h0|h0
 · refine ⟨h.1,fun i x hx=>?_⟩
   have:=(Zs hx).1;have:=h.1;omega
 · exact h.grownN hg (hne h0)
def YwE (W:World)(E B:Nat)(A:Option Addr)(n c:Nat)(xs:List Value)(ls:List Qbw):Prop :=
 Own W B 75 3 A n c xs∧ls.length=n∧∀ j t,ls[j]?=some t→∃ A2 n2 c2,xs[j*3]?=some (.int .i64 t.ins)∧xs[j*3+1]?=some (.int .i64 t.outs)∧xs[j*3+2]?=some (.slice A2 n2 c2)∧RdI W A2 n2 t.costs∧(0<n2→∀ g,Qab A2=some g→g<E)∧n2≤c2∧c2≤9223372036854775807
theorem YwE.nil (W:World)(E B:Nat):YwE W E B none 0 0 [] []:=⟨Own.nil _ _ _ _,rfl,fun j l h=>by simp at h⟩
theorem YwE.rdY {W:World}{E B n c:Nat}{A:Option Addr}{xs:List Value}{ls:List Qbw}(h:YwE W E B A n c xs ls):RdY W A n ls :=
 ⟨h.2.1,fun i t ht=>by
  obtain ⟨A2,n2,c2,h1,h2,h3,h4,_,h5,h6⟩:=h.2.2 i t ht;obtain ⟨b,o,e,k1⟩:=h.1.rds.2 _ _ h1;obtain ⟨b',o',e',k2⟩:=h.1.rds.2 _ _ h2;rw [e] at e';cases e'
  obtain ⟨b',o',e',k3⟩:=h.1.rds.2 _ _ h3;rw [e] at e';cases e'
  exact ⟨b,o,e,k1,by rw [Nat.add_assoc];exact k2,A2,n2,c2,by rw [Nat.add_assoc];exact k3,h4,h5,h6⟩⟩
theorem YwE.push {W w':World}{E B n c c' m d:Nat}{A A' R:Option Addr}{xs:List Value}{ls:List Qbw}{t:Qbw}(h:YwE W E B A n c xs ls)(hEB:E≤B)
 (hown:Own w' B 75 3 A' (n+1) c' (xs ++[.int .i64 t.ins,.int .i64 t.outs,.slice R m d])) (hg:W.grownBy w' (Qab A))
 (hr:RdI W R m t.costs) (hne:0<m→∀ g,Qab R=some g→g<E) (h4:m≤d) (h5:d≤9223372036854775807):YwE w' E B A' (n+1) c' (xs ++[.int .i64 t.ins,.int .i64 t.outs,.slice R m d]) (ls ++[t]):=by
 have hxl:xs.length=ls.length*3:=by rw [h.1.1,h.2.1]
 have hA:∀ g,g<E→Qab A≠some g:=fun g hg e=>by have:=(h.1.lt g e).1;omega
 refine ⟨hown,by simp [h.2.1],fun j t' hl=>?_⟩
 rcases Nat.lt_trichotomy j ls.length with hj|hj|hj
 · rw [List.getElem?_append_left hj] at hl
   obtain ⟨A2,n2,c2,p1,p2,p3,k2,k3,k4,k5⟩:=h.2.2 j t' hl;exact ⟨A2,n2,c2,by rw [List.getElem?_append_left (by omega)];exact p1,by rw [List.getElem?_append_left (by omega)];exact p2,by rw [List.getElem?_append_left (by omega)];exact p3,k2.grownE hg (fun h0 g e=>hA g (k3 h0 g e)),k3,k4,k5⟩
 · subst hj
   rw [List.getElem?_append_right (Zn _),Nat.sub_self] at hl
   cases hl
   refine ⟨R,m,d,?_,?_,?_,hr.grownE hg (fun h0 g e=>hA g (hne h0 g e)),hne,h4,h5⟩
   · rw [←hxl,List.getElem?_append_right (Zn _),Nat.sub_self];rfl
   · rw [←hxl,List.getElem?_append_right (by omega),Nat.add_sub_cancel_left];rfl
   · rw [←hxl,List.getElem?_append_right (by omega),Nat.add_sub_cancel_left];rfl
 · rw [List.getElem?_eq_none (by simp;omega)] at hl
   cases hl
theorem YwE.below {W W':World}{E B n c:Nat}{A:Option Addr}{xs:List Value}{ls:List Qbw}(h:YwE W E B A n c xs ls)(hb:Below W.heap.size W W'):YwE W' E B A n c xs ls :=
 ⟨h.1.below hb,h.2.1,fun i l hl=>by
  obtain ⟨A',n',c',p1,p2,p3,h2,h3,h4,h5⟩:=h.2.2 i l hl;exact ⟨A',n',c',p1,p2,p3,h2.below hb,h3,h4,h5⟩⟩
theorem YwE.far {W W':World}{E B n c:Nat}{A:Option Addr}{xs:List Value}{ls:List Qbw}(h:YwE W E B A n c xs ls){g:Nat} (hg:W.grownBy W' (some g)) (hE:E≤g) (hB:g<B):YwE W' E B A n c xs ls :=
 ⟨h.1.far hg (.inr (fun e=>by have:=(h.1.lt g e).1;omega)),h.2.1,fun i l hl=>by
  obtain ⟨A',n',c',p1,p2,p3,h2,h3,h4,h5⟩:=h.2.2 i l hl;refine ⟨A',n',c',p1,p2,p3,h2.grownE hg (fun h0 k hk e=>?_),h3,h4,h5⟩
  cases e
  have:=h3 h0 g hk;omega⟩
set_option maxHeartbeats 1000000 in
set_option maxRecDepth 20000 in
theorem Qvf (A B C:Option Addr)(n m k c d e:Nat)(N:Qaj)(w:World)(h:Qbm w A B C n m k N)(hn:n≤1000000)(hm:m≤1000000)(hk:k≤1000000)(hc:∀ t∈N.ts,t.costs.length≤1000000) :
 Calls prog 54 #[.agg #[.slice A n c,.slice B m d,.slice C k e]] w fun r w'=>∃ A' B' C' c' d' e',r=.returned (.agg #[.slice A' n c',.slice B' m d',.slice C' k e'])∧Qbm w' A' B' C' n m k N∧Below w.heap.size w w':=by
 have HV:=Zh h.1;have HA:=Zh h.2.1;have HY:=Zh h.2.2;have HC:=Zh hc;clear h hc
 go_enter func54,ntmps54
 go_wp2_with fail
 (refine Qah ?_;intro w1 hw1)
 have hb1:Below w.heap.size w w1:=by rw [hw1];exact Qae
 have hJ:Blk w1 w.heap.size 120 #[.slice A n c,.slice B m d,.slice C k e]:=by rw [hw1];exact Qau
 have hR:Blk w1 (w.heap.size+1) 26 #[.slice none 0 0,.slice none 0 0,.slice none 0 0]:=by rw [hw1];exact Qau
 have hK0:Blk w1 (w.heap.size+2) 26 #[.slice none 0 0,.slice none 0 0,.slice none 0 0]:=by rw [hw1];exact Qau
 clear hw1
 go_loopw [4] (fun i W=>Below w.heap.size w W∧Blk W w.heap.size 120 #[.slice A n c,.slice B m d,.slice C k e]∧Blk W (w.heap.size+1) 26 #[.slice none 0 0,.slice none 0 0,.slice none 0 0]∧∃ (j:Nat) (A3:Option Addr) (c3:Nat),j≤n∧i=.int .i64 j∧Blk W (w.heap.size+2) 26 #[.slice A3 j c3,.slice none 0 0,.slice none 0 0]∧Own W (w.heap.size+3) 138 3 A3 j c3 (Qao (N.vs.take j))) (fun i _=>n-(intOf i).toNat)
 case atStart=>exact ⟨hb1,hJ,hR,0,none,0,Nat.zero_le _,rfl,hK0,by simpa [Qao] using Own.nil _ _ _ _⟩
 case round =>
  clear hb1 hJ hR hK0;obtain ⟨hbl,hJ,hR,j,A3,c3,hj,rfl,hK0,hown⟩:=hrel;obtain ⟨j0,j1,j2⟩:=hJ.three;obtain ⟨k0,k1,k2⟩:=hK0.three
  by_cases hlt:j<n
  · obtain ⟨sb,so,x,y,z,rfl,hx,cx,cy,cz⟩:=HV.out.at_ hlt
    have HN:=Zh (Qer hx);have dx:=Zc hbl (Zn _) cx;have dy:=Zc hbl (Zn _) cy;have dz:=Zc hbl (Zn _) cz
    have HSX:=Zh (show ∀ V,Below (w.heap.size+2) wr V→V.cell? ⟨w.heap.size,0,none⟩=some (.slice (some ⟨sb,so,none⟩) n c)∧V.cell? ⟨sb,so+j*3,none⟩=some (.int .i64 x)∧V.cell? ⟨sb,so+j*3+1,none⟩=some (.int .i64 y)∧V.cell? ⟨sb,so+j*3+2,none⟩=some (.int .i64 z) from
     fun V hb=>⟨(hb.cell (by simp only;omega)).trans j0,(hb.cell (by have:=Qag cx;simp only at this ⊢;omega)).trans dx,(hb.cell (by have:=Qag cx;simp only at this ⊢;omega)).trans dy,(hb.cell (by have:=Qag cx;simp only at this ⊢;omega)).trans dz⟩)
    have i3:(0:Int)≤(j:Int):=by omega
    have i4:(j:Int)<(n:Int):=by omega
    have hsz:w.heap.size+3≤wr.heap.size:=by have:=hK0.lt;omega
    clear hx cx cy cz dx dy dz j1 j2 k0 k1 k2
    go_wp2_with fail
    refine wp_region_held_drew (S:=fun V=>Below (w.heap.size+2) wr V) (by kernel_rfl) (Zr _ _).drew (fun _=>?_);refine tz 0 14 ?_;refine tz 2 16 ?_;refine tz 3 17 ?_;refine tz 4 18 ?_;refine tz 5 19 ?_;refine tz 6 20 ?_;refine tz 7 21 ?_;refine tz 8 22 ?_;refine tz 9 23 ?_;refine tz 10 24 ?_;refine tz 11 25 ?_;refine tz 12 26 ?_;refine tz 13 27 ?_;refine tz 14 28 ?_;refine tz 15 29 ?_;refine tz 16 30 ?_;refine tz 17 31 ?_;refine tz 18 32 ?_;refine tz 19 33 ?_;refine tz 20 34 ?_;refine wpAnyH_ready (rs:=[1,21]) (by kernel_rfl) (by simp) ?_;refine AllReadyH.cons (o:=_) rfl (fun K hK=>?_) (AllReadyH.cons (o:=_) rfl (fun K hK=>?_) AllReadyH.nil)
    · have k3a:=hK0.three
      obtain ⟨k3a,k3b,k3c⟩:=k3a;go_simp;refine hK.out _ _ (Zr _ _).drew (fun _=>?_);clear hK K k3a k3b k3c;refine Zk 21 (fun K hK=>?_);go_simp;refine hK.out _ _ (((Zr _ _).alloc (by omega) _).drew) (fun _=>?_);clear hK K;have hW:∃ W,W=(wr.alloc (.cells #[.int .i64 x,.int .i64 y,.int .i64 z] 138)).drew:=⟨_,rfl⟩;obtain ⟨W,hW⟩:=hW;rw [←hW];have hownW:Own W (w.heap.size+3) 138 3 A3 j c3 (Qao (N.vs.take j)):=by rw [hW];exact (by repeat (first|assumption|apply Own.drewN|apply Own.drew|apply Own.alloc))
      skip
      have hrdW:Rds W 3 (some ⟨wr.heap.size,0,none⟩) 1 [.int .i64 x,.int .i64 y,.int .i64 z]:=by rw [hW];exact (Blk.new wr 138 #[.int .i64 x,.int .i64 y,.int .i64 z]).rds rfl
      have hbW:Below (w.heap.size+2) wr W:=by rw [hW];exact ((Zr _ _).alloc (by omega) _).drew
      have hblW:Below w.heap.size w W:=by rw [hW];exact Qae
      have hJW:Blk W w.heap.size 120 #[.slice (some ⟨sb,so,none⟩) n c,.slice B m d,.slice C k e]:=by rw [hW];exact Qck
      have hRW:Blk W (w.heap.size+1) 26 #[.slice none 0 0,.slice none 0 0,.slice none 0 0]:=by rw [hW];exact Qck
      have hKW:Blk W (w.heap.size+2) 26 #[.slice A3 j c3,.slice none 0 0,.slice none 0 0]:=by rw [hW];exact Qck
      have hWsz:(w.heap.size+3)≤W.heap.size:=by rw [hW];simp;omega
      clear hW;refine Zk 22 (fun K hK=>?_);with_reducible refine Qai (some 36) rfl rfl (.tmp 15) (.tmp 35) 22 rfl 138 _ 3 24 Qmy underlying22 rfl (by omega) rfl rfl hownW hrdW (Qbg x y z) (by omega) (by omega) hWsz ?_
      intro A' c' w' hown' hg _;have hb5:Below (w.heap.size+2) wr w':=Bel.grownOwn hbW hg (hownW.mono (by omega)) (by omega);have hb6:Below w.heap.size w w':=Bel.grownOwn hblW hg (hownW.mono (by omega)) (by omega);have hJ':=hJW.grown hg (hownW.ne (by omega));have hR':=hRW.grown hg (hownW.ne (by omega));have hK':=hKW.grown hg (hownW.ne (by omega))
      skip
      clear hownW hrdW hbW hblW hJW hRW hKW hg;refine hK.out _ _ hb5 (fun _=>?_);clear hK K;simp only [Act.put,List.setIfInBounds_toArray,List.set_cons_zero,List.set_cons_succ];refine tz 23 37 ?_;have k3':=hK'.three;have kf':=hK'.frozen 0;obtain ⟨k3a,k3b,k3c⟩:=k3';refine Zk 24 (fun K hK=>?_);go_simp;refine hK.out _ _ (hb5.setCell (by simp only;omega) _) (fun _=>?_);clear hK K;refine Zd ?_;have HO:=Zh (hown'.far (Qaa w' (w.heap.size+2) 0 (.slice A' (j+1) c')) (.inr (hown'.ne (by omega))));have HK2:=Zh (hK'.set_ 0 (.slice A' (j+1) c'))
      skip
      clear hown' hK' k3a k3b k3c kf'
      go_wp2_with fail
      go_roundw
      case rel=>exact ⟨Qae,Qck,Qck,j+1,A',c',by omega,by go_num,HK2.out,by rw [HN.out];exact HO.out⟩
      case measure=>simp [intOf];omega
    · go_simp
      refine hK.out _ _ (((Zr _ _).alloc (by omega) _).drew) (fun _=>?_);clear hK K;have k3a:=fun o=>(hK0.alloc o).three.1
      have k3b:=fun o=>(hK0.alloc o).three.2.1
      refine Zk 1 (fun K hK=>?_);go_simp;refine hK.out _ _ (((Zr _ _).alloc (by omega) _).drew) (fun _=>?_);clear hK K k3a k3b;have hW:∃ W,W=(wr.alloc (.cells #[.int .i64 x,.int .i64 y,.int .i64 z] 138)).drew:=⟨_,rfl⟩;obtain ⟨W,hW⟩:=hW;rw [←hW];have hownW:Own W (w.heap.size+3) 138 3 A3 j c3 (Qao (N.vs.take j)):=by rw [hW];exact (by repeat (first|assumption|apply Own.drewN|apply Own.drew|apply Own.alloc))
      skip
      have hrdW:Rds W 3 (some ⟨wr.heap.size,0,none⟩) 1 [.int .i64 x,.int .i64 y,.int .i64 z]:=by rw [hW];exact (Blk.new wr 138 #[.int .i64 x,.int .i64 y,.int .i64 z]).rds rfl
      have hbW:Below (w.heap.size+2) wr W:=by rw [hW];exact ((Zr _ _).alloc (by omega) _).drew
      have hblW:Below w.heap.size w W:=by rw [hW];exact Qae
      have hJW:Blk W w.heap.size 120 #[.slice (some ⟨sb,so,none⟩) n c,.slice B m d,.slice C k e]:=by rw [hW];exact Qck
      have hRW:Blk W (w.heap.size+1) 26 #[.slice none 0 0,.slice none 0 0,.slice none 0 0]:=by rw [hW];exact Qck
      have hKW:Blk W (w.heap.size+2) 26 #[.slice A3 j c3,.slice none 0 0,.slice none 0 0]:=by rw [hW];exact Qck
      have hWsz:(w.heap.size+3)≤W.heap.size:=by rw [hW];simp;omega
      clear hW;refine Zk 22 (fun K hK=>?_);with_reducible refine Qai (some 36) rfl rfl (.tmp 15) (.tmp 35) 22 rfl 138 _ 3 24 Qmy underlying22 rfl (by omega) rfl rfl hownW hrdW (Qbg x y z) (by omega) (by omega) hWsz ?_
      intro A' c' w' hown' hg _;have hb5:Below (w.heap.size+2) wr w':=Bel.grownOwn hbW hg (hownW.mono (by omega)) (by omega);have hb6:Below w.heap.size w w':=Bel.grownOwn hblW hg (hownW.mono (by omega)) (by omega);have hJ':=hJW.grown hg (hownW.ne (by omega));have hR':=hRW.grown hg (hownW.ne (by omega));have hK':=hKW.grown hg (hownW.ne (by omega))
      skip
      clear hownW hrdW hbW hblW hJW hRW hKW hg;refine hK.out _ _ hb5 (fun _=>?_);clear hK K;simp only [Act.put,List.setIfInBounds_toArray,List.set_cons_zero,List.set_cons_succ];refine tz 23 37 ?_;have k3':=hK'.three;have kf':=hK'.frozen 0;obtain ⟨k3a,k3b,k3c⟩:=k3';refine Zk 24 (fun K hK=>?_);go_simp;refine hK.out _ _ (hb5.setCell (by simp only;omega) _) (fun _=>?_);clear hK K;refine Zd ?_;have HO:=Zh (hown'.far (Qaa w' (w.heap.size+2) 0 (.slice A' (j+1) c')) (.inr (hown'.ne (by omega))));have HK2:=Zh (hK'.set_ 0 (.slice A' (j+1) c'))
      skip
      clear hown' hK' k3a k3b k3c kf'
      go_wp2_with fail
      go_roundw
      case rel=>exact ⟨Qae,Qck,Qck,j+1,A',c',by omega,by go_num,HK2.out,by rw [HN.out];exact HO.out⟩
      case measure=>simp [intOf];omega
  · obtain rfl:n=j:=by omega
    obtain ⟨A1,rfl⟩:∃ A1,A1=A3:=⟨_,rfl⟩;obtain ⟨c1,rfl⟩:∃ c1,c1=c3:=⟨_,rfl⟩;rw [List.take_of_length_le (by rw [HV.out.1];exact Zn _)] at hown;obtain ⟨w2,hw2⟩:∃ w2,w2=wr:=⟨_,rfl⟩;subst hw2;have hz2:w.heap.size+3≤w2.heap.size:=by have:=hK0.lt;omega
    have HLT:=Zh (fun g hg=>(hown.lt g hg).2)
    go_wp2_with fail
    go_loopw [5] (fun i W=>w2.heap.size≤W.heap.size∧Below w.heap.size w W∧Blk W w.heap.size 120 #[.slice A n c,.slice B m d,.slice C k e]∧Blk W (w.heap.size+1) 26 #[.slice none 0 0,.slice none 0 0,.slice none 0 0]∧Own W (w.heap.size+3) 138 3 A1 n c1 (Qao N.vs)∧∃ (j:Nat) (A3:Option Addr) (c3:Nat),j≤m∧i=.int .i64 j∧Blk W (w.heap.size+2) 26 #[.slice A1 n c1,.slice A3 j c3,.slice none 0 0]∧Own W w2.heap.size 73 3 A3 j c3 (Qao (N.ar.take j))) (fun i _=>m-(intOf i).toNat)
    case atStart=>exact ⟨Zn _,hbl,hJ,hR,hown,0,none,0,Nat.zero_le _,rfl,hK0,by simpa [Qao] using Own.nil _ _ _ _⟩
    case round =>
     clear hbl hJ hR hown hK0 j0 j1 j2 k0 k1 k2 hj;obtain ⟨hszr,hbl,hJ,hR,hVo,j,A3,c3,hj,rfl,hK0,hown⟩:=hrel;obtain ⟨j0,j1,j2⟩:=hJ.three;obtain ⟨k0,k1,k2⟩:=hK0.three
     by_cases hlt:j<m
     · obtain ⟨sb,so,x,y,z,rfl,hx,cx,cy,cz⟩:=HA.out.at_ hlt
       have HN:=Zh (Qer hx);have dx:=Zc hbl (Zn _) cx;have dy:=Zc hbl (Zn _) cy;have dz:=Zc hbl (Zn _) cz
       have HSX:=Zh (show ∀ V,Below (w.heap.size+2) wr V→V.cell? ⟨w.heap.size,1,none⟩=some (.slice (some ⟨sb,so,none⟩) m d)∧V.cell? ⟨sb,so+j*3,none⟩=some (.int .i64 x)∧V.cell? ⟨sb,so+j*3+1,none⟩=some (.int .i64 y)∧V.cell? ⟨sb,so+j*3+2,none⟩=some (.int .i64 z) from
        fun V hb=>⟨(hb.cell (by simp only;omega)).trans j1,(hb.cell (by have:=Qag cx;simp only at this ⊢;omega)).trans dx,(hb.cell (by have:=Qag cx;simp only at this ⊢;omega)).trans dy,(hb.cell (by have:=Qag cx;simp only at this ⊢;omega)).trans dz⟩)
       have i3:(0:Int)≤(j:Int):=by omega
       have i4:(j:Int)<(m:Int):=by omega
       have hsz:w2.heap.size≤wr.heap.size:=hszr;clear hx cx cy cz dx dy dz j0 j2 k0 k1 k2
       go_wp2_with fail
       refine wp_region_held_drew (S:=fun V=>Below (w.heap.size+2) wr V) (by kernel_rfl) (Zr _ _).drew (fun _=>?_);refine tz 0 45 ?_;refine tz 2 47 ?_;refine tz 3 48 ?_;refine tz 4 49 ?_;refine tz 5 50 ?_;refine tz 6 51 ?_;refine tz 7 52 ?_;refine tz 8 53 ?_;refine tz 9 54 ?_;refine tz 10 55 ?_;refine tz 11 56 ?_;refine tz 12 57 ?_;refine tz 13 58 ?_;refine tz 14 59 ?_;refine tz 15 60 ?_;refine tz 16 61 ?_;refine tz 17 62 ?_;refine tz 18 63 ?_;refine tz 19 64 ?_;refine tz 20 65 ?_;refine wpAnyH_ready (rs:=[1,21]) (by kernel_rfl) (by simp) ?_;refine AllReadyH.cons (o:=_) rfl (fun K hK=>?_) (AllReadyH.cons (o:=_) rfl (fun K hK=>?_) AllReadyH.nil)
       · have k3a:=hK0.three
         obtain ⟨k3a,k3b,k3c⟩:=k3a;go_simp;refine hK.out _ _ (Zr _ _).drew (fun _=>?_);clear hK K k3a k3b k3c;refine Zk 21 (fun K hK=>?_);go_simp;refine hK.out _ _ (((Zr _ _).alloc (by omega) _).drew) (fun _=>?_);clear hK K;have hW:∃ W,W=(wr.alloc (.cells #[.int .i64 x,.int .i64 y,.int .i64 z] 73)).drew:=⟨_,rfl⟩;obtain ⟨W,hW⟩:=hW;rw [←hW];have hownW:Own W w2.heap.size 73 3 A3 j c3 (Qao (N.ar.take j)):=by rw [hW];exact (by repeat (first|assumption|apply Own.drewN|apply Own.drew|apply Own.alloc))
         have hVW:Own W (w.heap.size+3) 138 3 A1 n c1 (Qao N.vs):=by rw [hW];exact (by repeat (first|assumption|apply Own.drewN|apply Own.drew|apply Own.alloc))
         have hrdW:Rds W 3 (some ⟨wr.heap.size,0,none⟩) 1 [.int .i64 x,.int .i64 y,.int .i64 z]:=by rw [hW];exact (Blk.new wr 73 #[.int .i64 x,.int .i64 y,.int .i64 z]).rds rfl
         have hbW:Below (w.heap.size+2) wr W:=by rw [hW];exact ((Zr _ _).alloc (by omega) _).drew
         have hblW:Below w.heap.size w W:=by rw [hW];exact Qae
         have hJW:Blk W w.heap.size 120 #[.slice A n c,.slice (some ⟨sb,so,none⟩) m d,.slice C k e]:=by rw [hW];exact Qck
         have hRW:Blk W (w.heap.size+1) 26 #[.slice none 0 0,.slice none 0 0,.slice none 0 0]:=by rw [hW];exact Qck
         have hKW:Blk W (w.heap.size+2) 26 #[.slice A1 n c1,.slice A3 j c3,.slice none 0 0]:=by rw [hW];exact Qck
         have hWsz:w2.heap.size≤W.heap.size:=by rw [hW];simp;omega
         clear hW;refine Zk 22 (fun K hK=>?_);with_reducible refine Qai (some 67) rfl rfl (.tmp 46) (.tmp 66) 23 rfl 73 _ 3 24 Qrf underlying23 rfl (by omega) rfl rfl hownW hrdW (Qbg x y z) (by omega) (by omega) hWsz ?_
         intro A' c' w' hown' hg _;have hb5:Below (w.heap.size+2) wr w':=Bel.grownOwn hbW hg (hownW.mono (by omega)) (by omega);have hb6:Below w.heap.size w w':=Bel.grownOwn hblW hg (hownW.mono (by omega)) (by omega);have hJ':=hJW.grown hg (hownW.ne (by omega));have hR':=hRW.grown hg (hownW.ne (by omega));have hK':=hKW.grown hg (hownW.ne (by omega));have hV':=hVW.far hg (Own.apart HLT.out hownW);clear hVW;clear hownW hrdW hbW hblW hJW hRW hKW hg;refine hK.out _ _ hb5 (fun _=>?_);clear hK K;simp only [Act.put,List.setIfInBounds_toArray,List.set_cons_zero,List.set_cons_succ];refine tz 23 68 ?_;have k3':=hK'.three;have kf':=hK'.frozen 1;obtain ⟨k3a,k3b,k3c⟩:=k3';refine Zk 24 (fun K hK=>?_);go_simp;refine hK.out _ _ (hb5.setCell (by simp only;omega) _) (fun _=>?_);clear hK K;refine Zd ?_;have HO:=Zh (hown'.far (Qaa w' (w.heap.size+2) 1 (.slice A' (j+1) c')) (.inr (hown'.ne (by omega))));have HK2:=Zh (hK'.set_ 1 (.slice A' (j+1) c'));have HV2:=Zh (hV'.far (Qaa w' (w.heap.size+2) 1 (.slice A' (j+1) c')) (.inr (hV'.ne (by omega))));clear hV';clear hown' hK' k3a k3b k3c kf'
         go_wp2_with fail
         go_roundw
         case rel=>exact ⟨(by have:=hb5.size;simp [World.setCell];omega),Qae,Qck,Qck,HV2.out,j+1,A',c',by omega,by go_num,HK2.out,by rw [HN.out];exact HO.out⟩
         case measure=>simp [intOf];omega
       · go_simp
         refine hK.out _ _ (((Zr _ _).alloc (by omega) _).drew) (fun _=>?_);clear hK K;have k3a:=fun o=>(hK0.alloc o).three.1
         have k3b:=fun o=>(hK0.alloc o).three.2.1
         refine Zk 1 (fun K hK=>?_);go_simp;refine hK.out _ _ (((Zr _ _).alloc (by omega) _).drew) (fun _=>?_);clear hK K k3a k3b;have hW:∃ W,W=(wr.alloc (.cells #[.int .i64 x,.int .i64 y,.int .i64 z] 73)).drew:=⟨_,rfl⟩;obtain ⟨W,hW⟩:=hW;rw [←hW];have hownW:Own W w2.heap.size 73 3 A3 j c3 (Qao (N.ar.take j)):=by rw [hW];exact (by repeat (first|assumption|apply Own.drewN|apply Own.drew|apply Own.alloc))
         have hVW:Own W (w.heap.size+3) 138 3 A1 n c1 (Qao N.vs):=by rw [hW];exact (by repeat (first|assumption|apply Own.drewN|apply Own.drew|apply Own.alloc))
         have hrdW:Rds W 3 (some ⟨wr.heap.size,0,none⟩) 1 [.int .i64 x,.int .i64 y,.int .i64 z]:=by rw [hW];exact (Blk.new wr 73 #[.int .i64 x,.int .i64 y,.int .i64 z]).rds rfl
         have hbW:Below (w.heap.size+2) wr W:=by rw [hW];exact ((Zr _ _).alloc (by omega) _).drew
         have hblW:Below w.heap.size w W:=by rw [hW];exact Qae
         have hJW:Blk W w.heap.size 120 #[.slice A n c,.slice (some ⟨sb,so,none⟩) m d,.slice C k e]:=by rw [hW];exact Qck
         have hRW:Blk W (w.heap.size+1) 26 #[.slice none 0 0,.slice none 0 0,.slice none 0 0]:=by rw [hW];exact Qck
         have hKW:Blk W (w.heap.size+2) 26 #[.slice A1 n c1,.slice A3 j c3,.slice none 0 0]:=by rw [hW];exact Qck
         have hWsz:w2.heap.size≤W.heap.size:=by rw [hW];simp;omega
         clear hW;refine Zk 22 (fun K hK=>?_);with_reducible refine Qai (some 67) rfl rfl (.tmp 46) (.tmp 66) 23 rfl 73 _ 3 24 Qrf underlying23 rfl (by omega) rfl rfl hownW hrdW (Qbg x y z) (by omega) (by omega) hWsz ?_
         intro A' c' w' hown' hg _;have hb5:Below (w.heap.size+2) wr w':=Bel.grownOwn hbW hg (hownW.mono (by omega)) (by omega);have hb6:Below w.heap.size w w':=Bel.grownOwn hblW hg (hownW.mono (by omega)) (by omega);have hJ':=hJW.grown hg (hownW.ne (by omega));have hR':=hRW.grown hg (hownW.ne (by omega));have hK':=hKW.grown hg (hownW.ne (by omega));have hV':=hVW.far hg (Own.apart HLT.out hownW);clear hVW;clear hownW hrdW hbW hblW hJW hRW hKW hg;refine hK.out _ _ hb5 (fun _=>?_);clear hK K;simp only [Act.put,List.setIfInBounds_toArray,List.set_cons_zero,List.set_cons_succ];refine tz 23 68 ?_;have k3':=hK'.three;have kf':=hK'.frozen 1;obtain ⟨k3a,k3b,k3c⟩:=k3';refine Zk 24 (fun K hK=>?_);go_simp;refine hK.out _ _ (hb5.setCell (by simp only;omega) _) (fun _=>?_);clear hK K;refine Zd ?_;have HO:=Zh (hown'.far (Qaa w' (w.heap.size+2) 1 (.slice A' (j+1) c')) (.inr (hown'.ne (by omega))));have HK2:=Zh (hK'.set_ 1 (.slice A' (j+1) c'));have HV2:=Zh (hV'.far (Qaa w' (w.heap.size+2) 1 (.slice A' (j+1) c')) (.inr (hV'.ne (by omega))));clear hV';clear hown' hK' k3a k3b k3c kf'
         go_wp2_with fail
         go_roundw
         case rel=>exact ⟨(by have:=hb5.size;simp [World.setCell];omega),Qae,Qck,Qck,HV2.out,j+1,A',c',by omega,by go_num,HK2.out,by rw [HN.out];exact HO.out⟩
         case measure=>simp [intOf];omega
     · obtain rfl:m=j:=by omega
       obtain ⟨A3',rfl⟩:∃ A3',A3'=A3:=⟨_,rfl⟩;obtain ⟨c3',rfl⟩:∃ c3',c3'=c3:=⟨_,rfl⟩;rw [List.take_of_length_le (by rw [HA.out.1];exact Zn _)] at hown;obtain ⟨w3,hw3⟩:∃ w3,w3=wr:=⟨_,rfl⟩;subst hw3;have HLV:=HLT;clear HLT;have HLT:=Zh (show ∀ g,Qab A1=some g→g<w3.heap.size from fun g hg=>by have:=HLV.out g hg;omega)
       have HLA:=Zh (fun g hg=>(hown.lt g hg).2);clear HLV;have hz3:w.heap.size+3≤w3.heap.size:=by omega
       go_wp2_with fail
       go_loopw [6] (fun i W=>w3.heap.size≤W.heap.size∧Below w.heap.size w W∧Blk W w.heap.size 120 #[.slice A n c,.slice B m d,.slice C k e]∧Blk W (w.heap.size+1) 26 #[.slice none 0 0,.slice none 0 0,.slice none 0 0]∧Own W (w.heap.size+3) 138 3 A1 n c1 (Qao N.vs)∧Own W w2.heap.size 73 3 A3' m c3' (Qao N.ar)∧∃ (j:Nat) (C3:Option Addr) (e3:Nat) (xs:List Value),j≤k∧i=.int .i64 j∧Blk W (w.heap.size+2) 26 #[.slice A1 n c1,.slice A3' m c3',.slice C3 j e3]∧YwE W w.heap.size w3.heap.size C3 j e3 xs (N.ts.take j)) (fun i _=>k-(intOf i).toNat)
       case atStart=>exact ⟨Zn _,hbl,hJ,hR,hVo,hown,0,none,0,[],Nat.zero_le _,rfl,hK0,by simpa using YwE.nil _ _ _⟩
       case round =>
        clear hbl hJ hR hown hK0 j0 j1 j2 k0 k1 k2 hj hVo hszr;obtain ⟨hszr,hbl,hJ,hR,hVo,hAo,j,C3,e3,xs,hj,rfl,hK0,hown⟩:=hrel;obtain ⟨j0,j1,j2⟩:=hJ.three
        by_cases hlt:j<k
        · obtain ⟨sb,so,t,rfl,ht,cx,cy,TA,n',TC,cz,hr,hc1',hc2'⟩:=HY.out.at_ hlt
          have HRR:=Zh hr;have HC1:=Zh hc1';have HC2:=Zh hc2'
          have HLE:=Zh (show 0<n'→∀ g,Qab TA=some g→g<w.heap.size from fun h0 g hg=>by
           obtain ⟨b,o',_,e,_,hcl⟩:=hr.at_ h0;rw [e] at hg
           cases hg
           have:=Qag hcl
           simpa using this)
          have HN:=Zh (show N.ts.take (j+1)=N.ts.take j ++[t] by
           rw [List.take_succ_eq_append_getElem (Zs ht).1,(Zs ht).2])
          have HTC:=Zh (show ∀ V,Below w.heap.size w V→Calls prog 97 #[.agg #[.int .i64 t.ins,.int .i64 t.outs,.slice TA n' TC]] V (fun e w'=>e=.returned (.agg #[.int .i64 t.ins,.int .i64 t.outs,.slice TA n' TC])∧Below V.heap.size V w') from fun V _=>Qvq TA n' TC t.ins t.outs V)
          have dx:=Zc hbl (Zn _) cx;have dy:=Zc hbl (Zn _) cy;have dz:=Zc hbl (Zn _) cz
          have HSX:=Zh (show ∀ V,Below (w.heap.size+2) wr V→V.cell? ⟨w.heap.size,2,none⟩=some (.slice (some ⟨sb,so,none⟩) k e)∧V.cell? ⟨sb,so+j*3,none⟩=some (.int .i64 t.ins)∧V.cell? ⟨sb,so+j*3+1,none⟩=some (.int .i64 t.outs)∧V.cell? ⟨sb,so+j*3+2,none⟩=some (.slice TA n' TC) from
           fun V hb=>⟨(hb.cell (by simp only;omega)).trans j2,(hb.cell (by have:=Qag cx;simp only at this ⊢;omega)).trans dx,(hb.cell (by have:=Qag cx;simp only at this ⊢;omega)).trans dy,(hb.cell (by have:=Qag cx;simp only at this ⊢;omega)).trans dz⟩)
          have i3:(0:Int)≤(j:Int):=by omega
          have i4:(j:Int)<(k:Int):=by omega
          have hsz:w3.heap.size≤wr.heap.size:=hszr;clear hr ht cx cy cz dx dy dz j0 j1 hc1' hc2'
          go_wp2_with fail
          refine wp_region_held_drew (S:=fun V=>Below (w.heap.size+2) wr V) (by kernel_rfl) (Zr _ _).drew (fun _=>?_);refine tz 0 76 ?_;refine tz 2 78 ?_;refine tz 3 79 ?_;refine tz 4 80 ?_;refine tz 5 81 ?_;refine tz 6 82 ?_;refine wpAnyH_ready (rs:=[1,7]) (by kernel_rfl) (by simp) ?_;refine AllReadyH.cons (o:=_) rfl (fun K hK=>?_) (AllReadyH.cons (o:=_) rfl (fun K hK=>?_) AllReadyH.nil)
          · have k3a:=hK0.three
            obtain ⟨k3a,k3b,k3c⟩:=k3a;go_simp;refine hK.out _ _ (Zr _ _).drew (fun _=>?_);clear hK K k3a k3b k3c;refine Zk 7 (fun K hK=>?_);go_simp;with_reducible refine (HTC.out _ Qae).mono ?_
            rintro r w4 ⟨rfl,hb4⟩;have hbr4:Below wr.heap.size wr w4:=Zb Qae hb4;clear hb4
            go_wp2_with fail
            refine hK.out _ _ (hbr4.mono (by omega)) (fun _=>?_);clear hK K;refine Zk 8 (fun K hK=>?_);go_simp;refine hK.out _ _ (Below.alloc (hbr4.mono (by omega)) (by have:=hbr4.size;omega) _) (fun _=>?_);clear hK K;have hW:∃ W,W=w4.alloc (.cells #[.int .i64 t.ins,.int .i64 t.outs,.slice TA n' TC] 75):=⟨_,rfl⟩;obtain ⟨W,hW⟩:=hW;rw [←hW];have hb4W:Below w4.heap.size w4 W:=by rw [hW];exact Qae
            have hrdW:Rds W 3 (some ⟨w4.heap.size,0,none⟩) 1 [.int .i64 t.ins,.int .i64 t.outs,.slice TA n' TC]:=by rw [hW];exact (Blk.new w4 75 #[.int .i64 t.ins,.int .i64 t.outs,.slice TA n' TC]).rds rfl
            clear hW;have hbrW:Below wr.heap.size wr W:=Zb hbr4 hb4W;have hyW:=hown.below hbrW;have hVW:=hVo.below hbrW;have hAW:=hAo.below hbrW;have hbW:Below (w.heap.size+2) wr W:=hbrW.mono (by omega);have hblW:Below w.heap.size w W:=Zb hbl hbrW;have hJW:=hJ.below hbrW hJ.lt;have hRW:=hR.below hbrW hR.lt;have hKW:=hK0.below hbrW hK0.lt;have hcW:=HRR.out.below hblW;have hclW:=HLE.out;have hcapW:=HC1.out;have hcapM:=HC2.out;have hWsz:w3.heap.size≤W.heap.size:=by have:=hbrW.size;omega
            have HYY:=Zh hyW;have hownY:=hyW.1
            have HONE:=Zh (show ∀ u∈[Value.int .i64 t.ins,.int .i64 t.outs,.slice TA n' TC],u.oneCell'=true from fun u hu=>by
             simp at hu
             rcases hu with rfl|rfl|rfl <;> rfl)
            clear hyW;refine Zk 9 (fun K hK=>?_);with_reducible refine Qai (some 85) rfl rfl (.tmp 77) (.tmp 84) 24 rfl 75 _ 3 40 Qhp underlying24 rfl (by omega) rfl rfl hownY hrdW HONE.out (by omega) (by omega) hWsz ?_
            intro A' c' w' hown' hg _;have hb5:Below (w.heap.size+2) wr w':=Bel.grownOwn hbW hg (hownY.mono (by omega)) (by omega);have hb6:Below w.heap.size w w':=Bel.grownOwn hblW hg (hownY.mono (by omega)) (by omega);have hJ':=hJW.grown hg (hownY.ne (by omega));have hR':=hRW.grown hg (hownY.ne (by omega));have hK':=hKW.grown hg (hownY.ne (by omega));have hV':=hVW.far hg (Own.apart HLT.out hownY);have hA':=hAW.far hg (Own.apart HLA.out hownY);have HYN:=Zh (HYY.out.push (by omega) hown' hg hcW hclW hcapW hcapM);clear hownY hrdW hbW hblW hJW hRW hKW hg hVW hAW hclW hcW hown' HYY hbrW hb4W hcapW hcapM;refine hK.out _ _ hb5 (fun _=>?_);clear hK K;simp only [Act.put,List.setIfInBounds_toArray,List.set_cons_zero,List.set_cons_succ];refine tz 10 86 ?_;have k3':=hK'.three;have kf':=hK'.frozen 2;obtain ⟨k3a,k3b,k3c⟩:=k3';refine Zk 11 (fun K hK=>?_);go_simp;refine hK.out _ _ (hb5.setCell (by simp only;omega) _) (fun _=>?_);clear hK K;refine Zd ?_;have HK2:=Zh (hK'.set_ 2 (.slice A' (j+1) c'));have HV2:=Zh (hV'.far (Qaa w' (w.heap.size+2) 2 (.slice A' (j+1) c')) (.inr (hV'.ne (by omega))));have HA2:=Zh (hA'.far (Qaa w' (w.heap.size+2) 2 (.slice A' (j+1) c')) (.inr (hA'.ne (by omega))));have HY2:=Zh (HYN.out.far (Qaa w' (w.heap.size+2) 2 (.slice A' (j+1) c')) (by omega) (by omega));clear hV' hA' hK' k3a k3b k3c kf'
            go_wp2_with fail
            go_roundw
            case rel=>exact ⟨(by have:=hb5.size;simp [World.setCell];omega),Qae,Qck,Qck,HV2.out,HA2.out,j+1,A',c',_,by omega,by go_num,HK2.out,by rw [HN.out];exact HY2.out⟩
            case measure=>simp [intOf];omega
          · go_simp
            with_reducible refine (HTC.out _ Qae).mono ?_
            rintro r w4 ⟨rfl,hb4⟩;have hbr4:Below wr.heap.size wr w4:=Zb Qae hb4;clear hb4
            go_wp2_with fail
            refine hK.out _ _ (hbr4.mono (by omega)) (fun _=>?_);clear hK K;refine wpAnyH_ready (rs:=[1,8]) (by kernel_rfl) (by simp) ?_;refine AllReadyH.cons (o:=_) rfl (fun K hK=>?_) (AllReadyH.cons (o:=_) rfl (fun K hK=>?_) AllReadyH.nil)
            · have k3a:=(hK0.below hbr4 hK0.lt).three
              obtain ⟨k3a,k3b,k3c⟩:=k3a;go_simp;refine hK.out _ _ (hbr4.mono (by omega)) (fun _=>?_);clear hK K k3a k3b k3c;refine Zk 8 (fun K hK=>?_);go_simp;refine hK.out _ _ (Below.alloc (hbr4.mono (by omega)) (by have:=hbr4.size;omega) _) (fun _=>?_);clear hK K;have hW:∃ W,W=w4.alloc (.cells #[.int .i64 t.ins,.int .i64 t.outs,.slice TA n' TC] 75):=⟨_,rfl⟩;obtain ⟨W,hW⟩:=hW;rw [←hW];have hb4W:Below w4.heap.size w4 W:=by rw [hW];exact Qae
              have hrdW:Rds W 3 (some ⟨w4.heap.size,0,none⟩) 1 [.int .i64 t.ins,.int .i64 t.outs,.slice TA n' TC]:=by rw [hW];exact (Blk.new w4 75 #[.int .i64 t.ins,.int .i64 t.outs,.slice TA n' TC]).rds rfl
              clear hW;have hbrW:Below wr.heap.size wr W:=Zb hbr4 hb4W;have hyW:=hown.below hbrW;have hVW:=hVo.below hbrW;have hAW:=hAo.below hbrW;have hbW:Below (w.heap.size+2) wr W:=hbrW.mono (by omega);have hblW:Below w.heap.size w W:=Zb hbl hbrW;have hJW:=hJ.below hbrW hJ.lt;have hRW:=hR.below hbrW hR.lt;have hKW:=hK0.below hbrW hK0.lt;have hcW:=HRR.out.below hblW;have hclW:=HLE.out;have hcapW:=HC1.out;have hcapM:=HC2.out;have hWsz:w3.heap.size≤W.heap.size:=by have:=hbrW.size;omega
              have HYY:=Zh hyW;have hownY:=hyW.1
              have HONE:=Zh (show ∀ u∈[Value.int .i64 t.ins,.int .i64 t.outs,.slice TA n' TC],u.oneCell'=true from fun u hu=>by
               simp at hu
               rcases hu with rfl|rfl|rfl <;> rfl)
              clear hyW;refine Zk 9 (fun K hK=>?_);with_reducible refine Qai (some 85) rfl rfl (.tmp 77) (.tmp 84) 24 rfl 75 _ 3 40 Qhp underlying24 rfl (by omega) rfl rfl hownY hrdW HONE.out (by omega) (by omega) hWsz ?_
              intro A' c' w' hown' hg _;have hb5:Below (w.heap.size+2) wr w':=Bel.grownOwn hbW hg (hownY.mono (by omega)) (by omega);have hb6:Below w.heap.size w w':=Bel.grownOwn hblW hg (hownY.mono (by omega)) (by omega);have hJ':=hJW.grown hg (hownY.ne (by omega));have hR':=hRW.grown hg (hownY.ne (by omega));have hK':=hKW.grown hg (hownY.ne (by omega));have hV':=hVW.far hg (Own.apart HLT.out hownY);have hA':=hAW.far hg (Own.apart HLA.out hownY);have HYN:=Zh (HYY.out.push (by omega) hown' hg hcW hclW hcapW hcapM);clear hownY hrdW hbW hblW hJW hRW hKW hg hVW hAW hclW hcW hown' HYY hbrW hb4W hcapW hcapM;refine hK.out _ _ hb5 (fun _=>?_);clear hK K;simp only [Act.put,List.setIfInBounds_toArray,List.set_cons_zero,List.set_cons_succ];refine tz 10 86 ?_;have k3':=hK'.three;have kf':=hK'.frozen 2;obtain ⟨k3a,k3b,k3c⟩:=k3';refine Zk 11 (fun K hK=>?_);go_simp;refine hK.out _ _ (hb5.setCell (by simp only;omega) _) (fun _=>?_);clear hK K;refine Zd ?_;have HK2:=Zh (hK'.set_ 2 (.slice A' (j+1) c'));have HV2:=Zh (hV'.far (Qaa w' (w.heap.size+2) 2 (.slice A' (j+1) c')) (.inr (hV'.ne (by omega))));have HA2:=Zh (hA'.far (Qaa w' (w.heap.size+2) 2 (.slice A' (j+1) c')) (.inr (hA'.ne (by omega))));have HY2:=Zh (HYN.out.far (Qaa w' (w.heap.size+2) 2 (.slice A' (j+1) c')) (by omega) (by omega));clear hV' hA' hK' k3a k3b k3c kf'
              go_wp2_with fail
              go_roundw
              case rel=>exact ⟨(by have:=hb5.size;simp [World.setCell];omega),Qae,Qck,Qck,HV2.out,HA2.out,j+1,A',c',_,by omega,by go_num,HK2.out,by rw [HN.out];exact HY2.out⟩
              case measure=>simp [intOf];omega
            · go_simp
              refine hK.out _ _ (Below.alloc (hbr4.mono (by omega)) (by have:=hbr4.size;omega) _) (fun _=>?_);clear hK K;have k3a:=fun o=>((hK0.below hbr4 hK0.lt).alloc o).three.1
              have k3b:=fun o=>((hK0.below hbr4 hK0.lt).alloc o).three.2.1
              have k3c:=fun o=>((hK0.below hbr4 hK0.lt).alloc o).three.2.2
              refine Zk 1 (fun K hK=>?_);go_simp;refine hK.out _ _ (Below.alloc (hbr4.mono (by omega)) (by have:=hbr4.size;omega) _) (fun _=>?_);clear hK K k3a k3b k3c;have hW:∃ W,W=w4.alloc (.cells #[.int .i64 t.ins,.int .i64 t.outs,.slice TA n' TC] 75):=⟨_,rfl⟩;obtain ⟨W,hW⟩:=hW;rw [←hW];have hb4W:Below w4.heap.size w4 W:=by rw [hW];exact Qae
              have hrdW:Rds W 3 (some ⟨w4.heap.size,0,none⟩) 1 [.int .i64 t.ins,.int .i64 t.outs,.slice TA n' TC]:=by rw [hW];exact (Blk.new w4 75 #[.int .i64 t.ins,.int .i64 t.outs,.slice TA n' TC]).rds rfl
              clear hW;have hbrW:Below wr.heap.size wr W:=Zb hbr4 hb4W;have hyW:=hown.below hbrW;have hVW:=hVo.below hbrW;have hAW:=hAo.below hbrW;have hbW:Below (w.heap.size+2) wr W:=hbrW.mono (by omega);have hblW:Below w.heap.size w W:=Zb hbl hbrW;have hJW:=hJ.below hbrW hJ.lt;have hRW:=hR.below hbrW hR.lt;have hKW:=hK0.below hbrW hK0.lt;have hcW:=HRR.out.below hblW;have hclW:=HLE.out;have hcapW:=HC1.out;have hcapM:=HC2.out;have hWsz:w3.heap.size≤W.heap.size:=by have:=hbrW.size;omega
              have HYY:=Zh hyW;have hownY:=hyW.1
              have HONE:=Zh (show ∀ u∈[Value.int .i64 t.ins,.int .i64 t.outs,.slice TA n' TC],u.oneCell'=true from fun u hu=>by
               simp at hu
               rcases hu with rfl|rfl|rfl <;> rfl)
              clear hyW;refine Zk 9 (fun K hK=>?_);with_reducible refine Qai (some 85) rfl rfl (.tmp 77) (.tmp 84) 24 rfl 75 _ 3 40 Qhp underlying24 rfl (by omega) rfl rfl hownY hrdW HONE.out (by omega) (by omega) hWsz ?_
              intro A' c' w' hown' hg _;have hb5:Below (w.heap.size+2) wr w':=Bel.grownOwn hbW hg (hownY.mono (by omega)) (by omega);have hb6:Below w.heap.size w w':=Bel.grownOwn hblW hg (hownY.mono (by omega)) (by omega);have hJ':=hJW.grown hg (hownY.ne (by omega));have hR':=hRW.grown hg (hownY.ne (by omega));have hK':=hKW.grown hg (hownY.ne (by omega));have hV':=hVW.far hg (Own.apart HLT.out hownY);have hA':=hAW.far hg (Own.apart HLA.out hownY);have HYN:=Zh (HYY.out.push (by omega) hown' hg hcW hclW hcapW hcapM);clear hownY hrdW hbW hblW hJW hRW hKW hg hVW hAW hclW hcW hown' HYY hbrW hb4W hcapW hcapM;refine hK.out _ _ hb5 (fun _=>?_);clear hK K;simp only [Act.put,List.setIfInBounds_toArray,List.set_cons_zero,List.set_cons_succ];refine tz 10 86 ?_;have k3':=hK'.three;have kf':=hK'.frozen 2;obtain ⟨k3a,k3b,k3c⟩:=k3';refine Zk 11 (fun K hK=>?_);go_simp;refine hK.out _ _ (hb5.setCell (by simp only;omega) _) (fun _=>?_);clear hK K;refine Zd ?_;have HK2:=Zh (hK'.set_ 2 (.slice A' (j+1) c'));have HV2:=Zh (hV'.far (Qaa w' (w.heap.size+2) 2 (.slice A' (j+1) c')) (.inr (hV'.ne (by omega))));have HA2:=Zh (hA'.far (Qaa w' (w.heap.size+2) 2 (.slice A' (j+1) c')) (.inr (hA'.ne (by omega))));have HY2:=Zh (HYN.out.far (Qaa w' (w.heap.size+2) 2 (.slice A' (j+1) c')) (by omega) (by omega));clear hV' hA' hK' k3a k3b k3c kf'
              go_wp2_with fail
              go_roundw
              case rel=>exact ⟨(by have:=hb5.size;simp [World.setCell];omega),Qae,Qck,Qck,HV2.out,HA2.out,j+1,A',c',_,by omega,by go_num,HK2.out,by rw [HN.out];exact HY2.out⟩
              case measure=>simp [intOf];omega
        · obtain rfl:k=j:=by omega
          rw [List.take_of_length_le (by rw [HY.out.1];exact Zn _)] at hown;obtain ⟨q0,q1,q2⟩:=hK0.three;have f0:=hR.frozen 0;have f1:=hR.frozen 1;have f2:=hR.frozen 2;obtain ⟨r0,r1,r2⟩:=hR.three;have HV5:=Zh ((((hVo.far (Qaa wr (w.heap.size+1) 0 (.slice A1 n c1)) (.inr (hVo.ne (by omega)))).far (Qaa _ (w.heap.size+1) 1 (.slice A3' m c3')) (.inr (hVo.ne (by omega)))).far (Qaa _ (w.heap.size+1) 2 (.slice C3 k e3)) (.inr (hVo.ne (by omega)))).rds.rd3);have HA5:=Zh ((((hAo.far (Qaa wr (w.heap.size+1) 0 (.slice A1 n c1)) (.inr (hAo.ne (by omega)))).far (Qaa _ (w.heap.size+1) 1 (.slice A3' m c3')) (.inr (hAo.ne (by omega)))).far (Qaa _ (w.heap.size+1) 2 (.slice C3 k e3)) (.inr (hAo.ne (by omega)))).rds.rd3);have HY5:=Zh ((((hown.far (Qaa wr (w.heap.size+1) 0 (.slice A1 n c1)) (by omega) (by omega)).far (Qaa _ (w.heap.size+1) 1 (.slice A3' m c3')) (by omega) (by omega)).far (Qaa _ (w.heap.size+1) 2 (.slice C3 k e3)) (by omega) (by omega)).rdY);clear hVo hAo hown j0 j1 hR
          go_wp2_with fail
          refine bodyPost_ret (v:=.agg #[.slice A1 n c1,.slice A3' m c3',.slice C3 k e3]) (by simp [results,results54,go_sem,r0,r1,r2]) rfl ?_;exact ⟨A1,A3',C3,c1,c3',e3,rfl,⟨HV5.out,HA5.out,HY5.out⟩,Qae⟩
end Go.Proofs.YthoagdpakddbdaaGreatDoor
