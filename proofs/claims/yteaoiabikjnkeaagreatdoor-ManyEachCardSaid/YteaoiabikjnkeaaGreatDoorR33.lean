/- Parts of the proof: RoN. -/
import Derived.Test.YteaoiabikjnkeaaGreatDoorR1
import Derived.Test.YteaoiabikjnkeaaGreatDoorR26
import Derived.Test.YteaoiabikjnkeaaGreatDoorR32
namespace Go.Proofs.YteaoiabikjnkeaaGreatDoor
open Go.RowKit Go.Proofs.Tryz
attribute [local go_sem ↓] Go.wp_at_zero Go.wp_at_succ
theorem Qwc {G:Nat→Prop}{W:World}{g:Nat}(hg:¬G g)(v0 v1 v2 v3 v4:Value):Qbf G W (((((W.setCell ⟨g,0,none⟩ v0).setCell ⟨g,1,none⟩ v1).setCell ⟨g,2,none⟩ v2).setCell ⟨g,3,none⟩ v3).setCell ⟨g,4,none⟩ v4):=fun b hb hl=>by
 have key:∀ (W':World) (o:Nat) (v:Value),b<W'.heap.size→(W'.setCell ⟨g,o,none⟩ v).heap[b]?=W'.heap[b]?∧b<(W'.setCell ⟨g,o,none⟩ v).heap.size:=fun W' o v h'=>⟨(Qaa W' g o v).block b h' (fun e=>hg (by cases e;exact hb)),by simpa [World.setCell] using h'⟩
 obtain ⟨e0,h0⟩:=key W 0 v0 hl;obtain ⟨e1,h1⟩:=key _ 1 v1 h0;obtain ⟨e2,h2⟩:=key _ 2 v2 h1;obtain ⟨e3,h3⟩:=key _ 3 v3 h2;obtain ⟨e4,h4⟩:=key _ 4 v4 h3;rw [e4,e3,e2,e1,e0]
def OfPost (w:World)(xA xB xC:Value)(m:Nat)(N:Qap)(r:Ending)(w':World):Prop :=
 ∃ (NX:Option Addr) (cx:Nat) (TX:Option Addr) (ct:Nat),r=.returned (.agg #[xA,xB,xC,.slice NX m cx,.slice TX m ct])∧RdT w' NX m (Qou N)∧RdT w' TX m (Qns N)∧Below w.heap.size w w'
structure OfW (w W:World) (xA xB xC:Value):Prop where
 bel:Below w.heap.size w W
 net:Blk W w.heap.size 26 #[xA,xB,xC]
 res:Blk W (w.heap.size+1) 53 #[.slice none 0 0,.slice none 0 0,.slice none 0 0,.slice none 0 0,.slice none 0 0]
 box:Blk W (w.heap.size+1+1) 53 #[xA,xB,xC,.slice none 0 0,.slice none 0 0]
 size:w.heap.size+5≤W.heap.size
section
variable {w W W':World} {xA xB xC:Value}
theorem OfW.below (h:OfW w W xA xB xC)(hb:Below W.heap.size W W'):OfW w W' xA xB xC:=⟨Zb h.bel hb,h.net.below hb h.net.lt,h.res.below hb h.res.lt,h.box.below hb h.box.lt,Nat.le_trans h.size hb.size⟩
theorem OfW.grown (h:OfW w W xA xB xC){r:Option Nat}(hg:W.grownBy W' r)(hr:∀ g,r=some g→w.heap.size+3≤g):OfW w W' xA xB xC :=
 ⟨h.bel.grown hg h.bel.size (fun g e=>by have:=hr g e;omega),h.net.grown hg (fun e=>by have:=hr _ e;omega),h.res.grown hg (fun e=>by have:=hr _ e;omega),h.box.grown hg (fun e=>by have:=hr _ e;omega),Nat.le_trans h.size hg.size⟩
end
structure OfR (w wB V:World) (xA xB xC:Value) (AN:Option Addr) (cN:Nat) (xN:List Value) (lN:List (List Int)) (AT:Option Addr) (cT:Nat) (xT:List Value) (lT:List (List Int)):Prop where
 kept:Qbf (fun b=>b≠w.heap.size+1+1) wB V
 size:wB.heap.size≤V.heap.size
 bel:Below w.heap.size w V
 box:Blk V (w.heap.size+1+1) 53 #[xA,xB,xC,.slice AN lN.length cN,.slice AT lT.length cT]
 tw:Tw 67 34 wB.heap.size V AN cN xN lN AT cT xT lT
section
variable {w wB V V':World} {xA xB xC:Value} {AN AT:Option Addr} {cN cT:Nat} {xN xT:List Value} {lN lT:List (List Int)}
theorem OfR.below (h:OfR w wB V xA xB xC AN cN xN lN AT cT xT lT)(hb:Below V.heap.size V V'):OfR w wB V' xA xB xC AN cN xN lN AT cT xT lT :=
 ⟨h.kept.trans (Qbf.below hb) h.size,Nat.le_trans h.size hb.size,Zb h.bel hb,h.box.below hb h.box.lt,h.tw.below hb⟩
theorem OfR.pushN {R A3:Option Addr}{d c3:Nat}{l:List Int}(h:OfR w wB V xA xB xC AN cN xN lN AT cT xT lT)(hz:w.heap.size+5≤wB.heap.size) (hr:RdI (msk V (GG wB.heap.size V AN AT)) R l.length l) (k1:l.length≤d) (k2:d≤9223372036854775807)
 (ho:Own V' wB.heap.size 67 1 A3 (lN.length+1) c3 (xN ++[.slice R l.length d])) (hg:V.grownBy V' (Qab AN)) (hat:Qab A3=Qab AN∨Qab A3=some V.heap.size) :
 OfR w wB (V'.setCell ⟨w.heap.size+1+1,3,none⟩ (.slice A3 (lN.length+1) c3)) xA xB xC A3 c3 (xN ++[.slice R l.length d]) (lN ++[l]) AT cT xT lT:=by
 have hA:∀ g,Qab AN=some g→wB.heap.size≤g:=fun g e=>(h.tw.o1.lt g e).1
 have hz':wB.heap.size≤V'.heap.size:=Nat.le_trans h.size hg.size;have hbx:=(h.box.grown hg (fun e=>by have:=hA _ e;omega)).set_ 3 (.slice A3 (lN.length+1) c3);refine ⟨fun b hb hl=>?_,by simpa [World.setCell] using hz',?_,?_,(h.tw.push hr k1 k2 ho hg hat).set (by omega) _ _⟩
 · have h1:=h.kept b hb hl
   have h2:=hg.block b (by have:=h.size;omega) (fun e=>by have:=hA b e.symm;omega);have h3:=(Qaa V' (w.heap.size+1+1) 3 (.slice A3 (lN.length+1) c3)).block b (by have:=h.size;have:=hg.size;omega) (fun e=>hb (by cases e;rfl))
   exact h3.trans (h2.trans h1)
 · exact Bel.setCell_ (h.bel.grown hg h.bel.size (fun g e=>by have:=hA g e;omega)) (by omega)
 · rw [List.length_append]
   simpa using hbx
theorem OfR.pushT {R A3:Option Addr}{d c3:Nat}{l:List Int}(h:OfR w wB V xA xB xC AN cN xN lN AT cT xT lT)(hz:w.heap.size+5≤wB.heap.size) (hr:RdI (msk V (GG wB.heap.size V AN AT)) R l.length l) (k1:l.length≤d) (k2:d≤9223372036854775807)
 (ho:Own V' wB.heap.size 34 1 A3 (lT.length+1) c3 (xT ++[.slice R l.length d])) (hg:V.grownBy V' (Qab AT)) (hat:Qab A3=Qab AT∨Qab A3=some V.heap.size) :
 OfR w wB (V'.setCell ⟨w.heap.size+1+1,4,none⟩ (.slice A3 (lT.length+1) c3)) xA xB xC AN cN xN lN A3 c3 (xT ++[.slice R l.length d]) (lT ++[l]):=by
 have hA:∀ g,Qab AT=some g→wB.heap.size≤g:=fun g e=>(h.tw.o2.lt g e).1
 have hz':wB.heap.size≤V'.heap.size:=Nat.le_trans h.size hg.size;have hbx:=(h.box.grown hg (fun e=>by have:=hA _ e;omega)).set_ 4 (.slice A3 (lT.length+1) c3);refine ⟨fun b hb hl=>?_,by simpa [World.setCell] using hz',?_,?_,((h.tw.swap.push (hr.le (Qbe (fun _ hb=>⟨hb.1,hb.2.1,hb.2.2.2,hb.2.2.1⟩))) k1 k2 ho hg hat).set (by omega) _ _).swap⟩
 · have h1:=h.kept b hb hl
   have h2:=hg.block b (by have:=h.size;omega) (fun e=>by have:=hA b e.symm;omega);have h3:=(Qaa V' (w.heap.size+1+1) 4 (.slice A3 (lT.length+1) c3)).block b (by have:=h.size;have:=hg.size;omega) (fun e=>hb (by cases e;rfl))
   exact h3.trans (h2.trans h1)
 · exact Bel.setCell_ (h.bel.grown hg h.bel.size (fun g e=>by have:=hA g e;omega)) (by omega)
 · rw [List.length_append]
   simpa using hbx
end
theorem infoI64s:(Tryz.prog.info? 34).map (fun i=>(i.zero,i.size,i.bytes))=some (some (.slice none 0 0),1,24):=by kernel_rfl
set_option maxHeartbeats 8000000 in
set_option maxRecDepth 20000 in
theorem Qta (A B C:Option Addr)(n m k c d e:Nat)(N:Qap)(w:World)(h:Qcj w A B C n m k N)(hok:Qaz N) :
 Calls prog 22 #[.agg #[.slice A n c,.slice B m d,.slice C k e]] w (OfPost w (.slice A n c) (.slice B m d) (.slice C k e) m N):=by
 have HH:=Zh h;have HOK:=Zh hok;have HLV:=Zh h.1.1;have HLA:=Zh h.2.1.1;have HLT:=Zh h.2.2.1;have hn4:n≤4096:=by rw [←h.1.1];exact hok.lv
 have hm:m≤16384:=by rw [←h.2.1.1];exact hok.la
 have hmk:=Qln n (by omega);clear h hok
 go_enter func22,ntmps22
 go_wp2_with fail
 (refine Qak ?_;intro w1 hw1)
 have hW1:OfW w w1 (.slice A n c) (.slice B m d) (.slice C k e):=by
  rw [hw1];refine ⟨Qah,?_,?_,?_,?_⟩
  · repeat (first|(refine Blk.new' _ _ _ ?_ <;> simp <;> done)|apply Blk.alloc)
  · repeat (first|(refine Blk.new' _ _ _ ?_ <;> simp <;> done)|apply Blk.alloc)
  · repeat (first|(refine Blk.new' _ _ _ ?_ <;> simp <;> done)|apply Blk.alloc)
  · simp
 have hI1:Ik2 w1 (w.heap.size+5) (w.heap.size+1+1+1) (w.heap.size+1+1+1+1) n (Qkd (·.1) (N.ar.take 0) n) (Qkd (·.2.1) (N.ar.take 0) n):=by
  rw [List.take_zero,Qjh,Qjh];refine Ik2.start (by omega) (by omega) (by omega) ?_ ?_
  · rw [hw1];repeat (first|(refine Blk.new' _ _ _ ?_ <;> simp <;> done)|apply Blk.alloc)
  · rw [hw1];repeat (first|(refine Blk.new' _ _ _ ?_ <;> simp <;> done)|apply Blk.alloc)
 clear hw1 hmk
 go_loopw [6] (fun q W=>∃ j:Nat,j≤m∧q=.int .i64 j∧OfW w W (.slice A n c) (.slice B m d) (.slice C k e)∧Ik2 W (w.heap.size+5) (w.heap.size+1+1+1) (w.heap.size+1+1+1+1) n (Qkd (·.1) (N.ar.take j) n) (Qkd (·.2.1) (N.ar.take j) n)) (fun q _=>m-(intOf q).toNat)
 case atStart=>exact ⟨0,Nat.zero_le _,rfl,hW1,hI1⟩
 case round =>
  clear hW1 hI1;obtain ⟨j,hj,rfl,hW,hI⟩:=hrel;have x1:wr.cell? ⟨w.heap.size,1,none⟩=some (.slice B m d):=Zq hW.net;have xl:=hW.size
  by_cases hlt:j<m
  · obtain ⟨b,o,x,y,z,rfl,hx,cx,cy,cz⟩:=HH.out.2.1.at_ hlt
    have hok:=HOK.out.arcs _ (Zm hx);have f0:=hok.f0;have f1:=hok.f1;have g0:=hok.g0;have g1:=hok.g1;simp only at f0 f1 g0 g1;rw [HLV.out] at f1 g1;obtain ⟨u,rfl⟩:∃ u:Nat,x=u:=⟨x.toNat,by omega⟩;obtain ⟨v,rfl⟩:∃ v:Nat,y=v:=⟨y.toNat,by omega⟩;have hu:u<n:=by omega
    have hvn:v<n:=by omega
    have HN1:=Zh (Qgz (f:=(·.2.1)) (n:=n) (v:=v) hx rfl hvn);have HN2:=Zh (Qgz (f:=(·.1)) (n:=n) (v:=u) hx rfl hu);have HL1:=Zh (Qdg (f:=(·.2.1)) (l:=N.ar.take j) hvn);have HL2:=Zh (Qdg (f:=(·.1)) (l:=N.ar.take j) hu);have d1:=Qgq (·.2.1) N.ar j (v:Int);have d2:=Qgq (·.1) N.ar j (u:Int);have CXU:=Zh cx;have CXV:=Zh cy;have i1:(0:Int)≤(j:Int):=by omega
    have i2:(j:Int)<(m:Int):=by omega
    have i3:(0:Int)≤(u:Int):=by omega
    have i4:(u:Int)<(n:Int):=by omega
    have i5:(0:Int)≤(v:Int):=by omega
    have i6:(v:Int)<(n:Int):=by omega
    have HIV:=Zh hI;have HWV:=Zh hW;clear hx hok cx cy cz hW hI;generalize hl1:idx (·.2.1) (N.ar.take j) (v:Int)=la at *;generalize hl2:idx (·.1) (N.ar.take j) (u:Int)=lb at *;clear hl1 hl2;have HLX:=Zh HL2.out;have HLN:=Zh HN2.out;have HUU:=hu
    go_wp2_with fail
    obtain ⟨Ac,cc,lc,ec,cwc,ffc,hoc⟩:=HIV.out.1.row HUU;rw [HLX.out] at ec
    cases ec
    have hx1:wr.cell? ⟨w.heap.size,1,none⟩=some (.slice (some ⟨b,o,none⟩) m d):=Zq HWV.out.net;have hx2:=Zc HWV.out.bel (Zn _) CXU.out;have hbl:=Qaj CXU.out;simp only at hbl;refine Qbi 20 (S:=fun V=>V.cell? ⟨w.heap.size,1,none⟩=some (.slice (some ⟨b,o,none⟩) m d)∧V.cell? ⟨b,o+j*3,none⟩=some (.int .i64 (u:Int))∧V.cell? ⟨w.heap.size+1+1+1,u,none⟩=some (.slice Ac lb.length cc)) (by kernel_rfl) ⟨hx1,hx2,cwc⟩ (fun _=>?_);refine tkF 0 31 (h:=⟨_,tv,?_⟩);simp only [pE,List.set];refine tkF 1 32 (h:=⟨_,tv,?_⟩);simp only [pE,List.set];refine tkK 2 33 (h:=⟨_,tv,?_⟩);simp only [pE,List.set];refine tkF 3 34 (h:=⟨_,tv,?_⟩);simp only [pE,List.set];refine tkF 4 35 (h:=⟨_,tv,?_⟩);simp only [pE,List.set];refine tkF 5 36 (h:=⟨_,tv,?_⟩);simp only [pE,List.set];refine tkK 6 37 (h:=⟨_,tv,?_⟩);simp only [pE,List.set];refine tkF 7 38 (h:=⟨_,tv,?_⟩);simp only [pE,List.set];refine tkF 8 39 (h:=⟨_,tv,?_⟩);simp only [pE,List.set];refine tkK 9 40 (h:=⟨_,tv,?_⟩);simp only [pE,List.set];refine tkF 10 41 (h:=⟨_,tv,?_⟩);simp only [pE,List.set];refine tkF 11 42 (h:=⟨_,tv,?_⟩);simp only [pE,List.set];refine tkF 12 43 (h:=⟨_,tv,?_⟩);simp only [pE,List.set];refine tkK 13 44 (h:=⟨_,tv,?_⟩);simp only [pE,List.set];refine tkF 14 45 (h:=⟨_,tv,?_⟩);simp only [pE,List.set];refine tkK 15 46 (h:=⟨_,tv,?_⟩);simp only [pE,List.set];refine tkF 16 47 (h:=⟨_,tv,?_⟩);simp only [pE,List.set];obtain ⟨w9,hw9⟩:∃ w9,w9=(wr.alloc (.cells #[.int .i64 (j:Int)] 3)).drew:=⟨_,rfl⟩;have hb9:Below wr.heap.size wr w9:=by rw [hw9];exact ((Zr _ _).alloc (Zn _) _).drew
    have hI9:=HIV.out.below hb9;have hW9:=HWV.out.below hb9;have hrd9:Rds w9 1 (some ⟨wr.heap.size,0,none⟩) 1 (Qag [(j:Int)]):=by rw [hw9];exact ((Blk.new wr 3 (Qbu [(j:Int)])).drew).rds rfl
    have hro9:=hoc.below hb9;have hrc9:=Zc hb9 (Zn _) cwc;have hx19:=Zc hb9 (Zn _) hx1;have hx29:=Zc hb9 (Zn _) hx2;have hsz9:w.heap.size+5≤w9.heap.size:=hW9.size;have hAz:∀ g,Qab Ac=some g→w.heap.size+5≤g:=fun g e=>(hoc.lt g e).1
    refine Qbk (i:=17) (by kernel_rfl) (by rfl) rfl (fun K hK=>?_);go_simp;rw [←hw9];refine hK.out _ _ ⟨hx19,hx29,hrc9⟩ (fun _=>?_);clear hK K hw9;refine Qbk (i:=18) (by kernel_rfl) (by rfl) rfl (fun K hK=>?_);with_reducible refine Qal (some 49) rfl rfl (.tmp 46) (.tmp 48) 67 rfl 3 _ 1 8 Qbc underlying67 rfl (by omega) rfl rfl hro9 hrd9 (Qai _) (by omega) (by omega) hsz9 ?_
    intro RA' rc' w10 ho10 hg10 hat10;have hW10:=hW9.grown hg10 (fun g e=>by have:=hAz g e;omega)
    have hcg:w10.cell? ⟨w.heap.size+1+1+1,u,none⟩=some (.slice Ac lb.length cc):=by
     rw [World.cell?_of_block (hg10.block (w.heap.size+1+1+1) (by omega) (fun e=>by have:=hAz _ e.symm;omega))];exact hrc9
    have hcy:w10.cell? ⟨b,o+j*3,none⟩=some (.int .i64 (u:Int)):=Zc hW10.bel (Zn _) CXU.out;obtain ⟨xf,hfv,hff⟩:=hI9.1.cellG HUU hg10 (hro9.ne (by omega));refine hK.out _ _ ⟨Zq hW10.net,hcy,hcg⟩ (fun _=>?_);clear hK K;simp only [Act.put,List.setIfInBounds_toArray,List.set_cons_zero,List.set_cons_succ];have hIF:=hI9.push HLX.out hrc9 ho10 hg10 hat10;have hWF:=hW10.grown (Qaa w10 (w.heap.size+1+1+1) u (.slice RA' (lb.length+1) rc')) (fun g e=>by cases e;omega)
    refine tkF 19 50 (h:=⟨_,tv,?_⟩);simp only [pE,List.set];refine Qbr (k:=20) (by kernel_rfl) rfl (fun K hK=>?_);go_simp;refine hK.out _ _ ?_;clear hK K;refine Qbm (by kernel_rfl) ?_ _;obtain ⟨V2,hVO⟩:∃ V2,V2=w10.setCell ⟨w.heap.size+1+1+1,u,none⟩ (.slice RA' (lb.length+1) rc'):=⟨_,rfl⟩;rw [←hVO] at hIF hWF ⊢;rw [HLN.out] at hIF;clear hVO hcg hcy hfv hff ho10 hg10 hat10 hI9 hW9 hW10 hrd9 hro9 hrc9 hx19 hx29 hsz9 hb9 hAz cwc ffc hoc hx1 hx2 HIV HWV HLX HLN HUU;have HIV:=Zh hIF.swap;have HWV:=Zh hWF;clear hIF hWF;have HLX:=Zh HL1.out;have HLN:=Zh HN1.out;have HUU:=hvn
    go_wp2_with fail
    obtain ⟨Ac,cc,lc,ec,cwc,ffc,hoc⟩:=HIV.out.1.row HUU;rw [HLX.out] at ec
    cases ec
    have hx1:V2.cell? ⟨w.heap.size,1,none⟩=some (.slice (some ⟨b,o,none⟩) m d):=Zq HWV.out.net;have hx2:=Zc HWV.out.bel (Zn _) CXV.out;have hbl:=Qaj CXV.out;simp only at hbl;refine Qbi 20 (S:=fun V=>V.cell? ⟨w.heap.size,1,none⟩=some (.slice (some ⟨b,o,none⟩) m d)∧V.cell? ⟨b,o+j*3+1,none⟩=some (.int .i64 (v:Int))∧V.cell? ⟨w.heap.size+1+1+1+1,v,none⟩=some (.slice Ac la.length cc)) (by kernel_rfl) ⟨hx1,hx2,cwc⟩ (fun _=>?_);refine tkF 0 51 (h:=⟨_,tv,?_⟩);simp only [pE,List.set];refine tkF 1 52 (h:=⟨_,tv,?_⟩);simp only [pE,List.set];refine tkK 2 53 (h:=⟨_,tv,?_⟩);simp only [pE,List.set];refine tkF 3 54 (h:=⟨_,tv,?_⟩);simp only [pE,List.set];refine tkF 4 55 (h:=⟨_,tv,?_⟩);simp only [pE,List.set];refine tkF 5 56 (h:=⟨_,tv,?_⟩);simp only [pE,List.set];refine tkK 6 57 (h:=⟨_,tv,?_⟩);simp only [pE,List.set];refine tkF 7 58 (h:=⟨_,tv,?_⟩);simp only [pE,List.set];refine tkF 8 59 (h:=⟨_,tv,?_⟩);simp only [pE,List.set];refine tkK 9 60 (h:=⟨_,tv,?_⟩);simp only [pE,List.set];refine tkF 10 61 (h:=⟨_,tv,?_⟩);simp only [pE,List.set];refine tkF 11 62 (h:=⟨_,tv,?_⟩);simp only [pE,List.set];refine tkF 12 63 (h:=⟨_,tv,?_⟩);simp only [pE,List.set];refine tkK 13 64 (h:=⟨_,tv,?_⟩);simp only [pE,List.set];refine tkF 14 65 (h:=⟨_,tv,?_⟩);simp only [pE,List.set];refine tkK 15 66 (h:=⟨_,tv,?_⟩);simp only [pE,List.set];refine tkF 16 67 (h:=⟨_,tv,?_⟩);simp only [pE,List.set];obtain ⟨w9,hw9⟩:∃ w9,w9=(V2.alloc (.cells #[.int .i64 (j:Int)] 3)).drew:=⟨_,rfl⟩;have hb9:Below V2.heap.size V2 w9:=by rw [hw9];exact ((Zr _ _).alloc (Zn _) _).drew
    have hI9:=HIV.out.below hb9;have hW9:=HWV.out.below hb9;have hrd9:Rds w9 1 (some ⟨V2.heap.size,0,none⟩) 1 (Qag [(j:Int)]):=by rw [hw9];exact ((Blk.new V2 3 (Qbu [(j:Int)])).drew).rds rfl
    have hro9:=hoc.below hb9;have hrc9:=Zc hb9 (Zn _) cwc;have hx19:=Zc hb9 (Zn _) hx1;have hx29:=Zc hb9 (Zn _) hx2;have hsz9:w.heap.size+5≤w9.heap.size:=hW9.size;have hAz:∀ g,Qab Ac=some g→w.heap.size+5≤g:=fun g e=>(hoc.lt g e).1
    refine Qbk (i:=17) (by kernel_rfl) (by rfl) rfl (fun K hK=>?_);go_simp;rw [←hw9];refine hK.out _ _ ⟨hx19,hx29,hrc9⟩ (fun _=>?_);clear hK K hw9;refine Qbk (i:=18) (by kernel_rfl) (by rfl) rfl (fun K hK=>?_);with_reducible refine Qal (some 69) rfl rfl (.tmp 66) (.tmp 68) 67 rfl 3 _ 1 8 Qbc underlying67 rfl (by omega) rfl rfl hro9 hrd9 (Qai _) (by omega) (by omega) hsz9 ?_
    intro RA' rc' w10 ho10 hg10 hat10;have hW10:=hW9.grown hg10 (fun g e=>by have:=hAz g e;omega)
    have hcg:w10.cell? ⟨w.heap.size+1+1+1+1,v,none⟩=some (.slice Ac la.length cc):=by
     rw [World.cell?_of_block (hg10.block (w.heap.size+1+1+1+1) (by omega) (fun e=>by have:=hAz _ e.symm;omega))];exact hrc9
    have hcy:w10.cell? ⟨b,o+j*3+1,none⟩=some (.int .i64 (v:Int)):=Zc hW10.bel (Zn _) CXV.out;obtain ⟨xf,hfv,hff⟩:=hI9.1.cellG HUU hg10 (hro9.ne (by omega));refine hK.out _ _ ⟨Zq hW10.net,hcy,hcg⟩ (fun _=>?_);clear hK K;simp only [Act.put,List.setIfInBounds_toArray,List.set_cons_zero,List.set_cons_succ];have hIF:=hI9.push HLX.out hrc9 ho10 hg10 hat10;have hWF:=hW10.grown (Qaa w10 (w.heap.size+1+1+1+1) v (.slice RA' (la.length+1) rc')) (fun g e=>by cases e;omega)
    refine tkF 19 70 (h:=⟨_,tv,?_⟩);simp only [pE,List.set];refine Qbr (k:=20) (by kernel_rfl) rfl (fun K hK=>?_);go_simp;refine hK.out _ _ ?_;clear hK K;refine Qbm (by kernel_rfl) ?_ _;obtain ⟨V3,hVO⟩:∃ V3,V3=w10.setCell ⟨w.heap.size+1+1+1+1,v,none⟩ (.slice RA' (la.length+1) rc'):=⟨_,rfl⟩;rw [←hVO] at hIF hWF ⊢;rw [HLN.out] at hIF;clear hVO hcg hcy hfv hff ho10 hg10 hat10 hI9 hW9 hW10 hrd9 hro9 hrc9 hx19 hx29 hsz9 hb9 hAz cwc ffc hoc hx1 hx2 HIV HWV HLX HLN HUU;have HIV:=Zh hIF.swap;have HWV:=Zh hWF;clear hIF hWF
    go_wp2_with fail
    go_roundw
    case rel=>exact ⟨j+1,by omega,by go_num,HWV.out,HIV.out⟩
    case measure=>simp [intOf];omega
  · obtain rfl:m=j:=by omega
    have i1:¬((m:Int)<(m:Int)):=by omega
    obtain ⟨wB,hwB⟩:∃ wB,wB=wr:=⟨_,rfl⟩;subst hwB;rw [List.take_of_length_le (by rw [HLA.out];exact Zn _)] at hI;obtain ⟨G0,hG0⟩:∃ G0:Nat→Prop,G0=fun b=>w.heap.size+3≤b∧b<wB.heap.size:=⟨_,rfl⟩
    have HOUT:=Zh (show RdT (msk wB G0) (some ⟨w.heap.size+1+1+1,0,none⟩) n (Qkd (·.1) N.ar n) from hI.1.rdM (by rw [hG0];exact ⟨by omega,hI.1.lt⟩) (fun b h1 h2=>by rw [hG0];exact ⟨by omega,h2⟩))
    have HIN:=Zh (show RdT (msk wB G0) (some ⟨w.heap.size+1+1+1+1,0,none⟩) n (Qkd (·.2.1) N.ar n) from hI.2.1.rdM (by rw [hG0];exact ⟨by omega,hI.2.1.lt⟩) (fun b h1 h2=>by rw [hG0];exact ⟨by omega,h2⟩))
    have HLG:=Zh (show ∀ V,Qbf (fun b=>b≠w.heap.size+1+1) wB V→Le (msk wB G0) V from fun V hV=>(hV.mono (fun b hb=>by rw [hG0] at hb;have:=hb.1;omega)).msk.trans (Qba _ _))
    have HWB:=Zh hW;have HR0:=Zh (show OfR w wB wB (.slice A n c) (.slice B m d) (.slice C k e) none 0 [] [] none 0 [] [] from ⟨Qbf.refl _ _,Zn _,hW.bel,hW.box,Tw.nil _ _ _ _⟩)
    clear hW hI hG0
    go_wp2_with fail
    go_loopw [7] (fun q V=>∃ (a:Nat) (AN:Option Addr) (cN:Nat) (xN:List Value) (AT:Option Addr) (cT:Nat) (xT:List Value),a≤m∧q=.int .i64 a∧OfR w wB V (.slice A n c) (.slice B m d) (.slice C k e) AN cN xN ((List.range a).map (Qgj N)) AT cT xT ((List.range a).map (Qps N))) (fun q _=>m-(intOf q).toNat)
    case atStart=>exact ⟨0,none,0,[],none,0,[],Nat.zero_le _,rfl,HR0.out⟩
    case round =>
     clear HR0 x1 xl;obtain ⟨a,AN,cN,xN,AT,cT,xT,ha,rfl,hR⟩:=hrel;have HR:=Zh hR;have hz5:=HWB.out.size;have hzB:=hR.size;have hnet:Blk wr w.heap.size 26 #[.slice A n c,.slice B m d,.slice C k e]:=(hR.kept w.heap.size (show w.heap.size≠w.heap.size+1+1 by omega) HWB.out.net.lt).trans HWB.out.net
     have x1:wr.cell? ⟨w.heap.size,1,none⟩=some (.slice B m d):=Zq hnet;have xl:=hnet.lt
     by_cases haM:a<m
     rotate_left
     · obtain rfl:m=a:=by omega
       have hres:Blk wr (w.heap.size+1) 53 #[.slice none 0 0,.slice none 0 0,.slice none 0 0,.slice none 0 0,.slice none 0 0]:=(hR.kept (w.heap.size+1) (show w.heap.size+1≠w.heap.size+1+1 by omega) HWB.out.res.lt).trans HWB.out.res
       have hl1:((List.range m).map (Qgj N)).length=m:=by simp
       have hl2:((List.range m).map (Qps N)).length=m:=by simp
       have hbx:=hR.box;rw [hl1,hl2] at hbx;have y0:wr.cell? ⟨w.heap.size+1+1,0,none⟩=some (.slice A n c):=Zq hbx;have y1:wr.cell? ⟨w.heap.size+1+1,1,none⟩=some (.slice B m d):=Zq hbx;have y2:wr.cell? ⟨w.heap.size+1+1,2,none⟩=some (.slice C k e):=Zq hbx;have y3:wr.cell? ⟨w.heap.size+1+1,3,none⟩=some (.slice AN m cN):=Zq hbx;have y4:wr.cell? ⟨w.heap.size+1+1,4,none⟩=some (.slice AT m cT):=Zq hbx;have z0:wr.cell? ⟨w.heap.size+1,0,none⟩=some (.slice none 0 0):=Zq hres;have z1:wr.cell? ⟨w.heap.size+1,1,none⟩=some (.slice none 0 0):=Zq hres;have z2:wr.cell? ⟨w.heap.size+1,2,none⟩=some (.slice none 0 0):=Zq hres;have z3:wr.cell? ⟨w.heap.size+1,3,none⟩=some (.slice none 0 0):=Zq hres;have z4:wr.cell? ⟨w.heap.size+1,4,none⟩=some (.slice none 0 0):=Zq hres;have f0:=hres.frozen 0;have f1:=hres.frozen 1;have f2:=hres.frozen 2;have f3:=hres.frozen 3;have f4:=hres.frozen 4;clear hR hl1 hl2 hbx
       go_wp2_with fail
       obtain ⟨w9,hw9⟩:∃ w9,w9=((((wr.setCell ⟨w.heap.size+1,0,none⟩ (.slice A n c)).setCell ⟨w.heap.size+1,1,none⟩ (.slice B m d)).setCell ⟨w.heap.size+1,2,none⟩ (.slice C k e)).setCell ⟨w.heap.size+1,3,none⟩ (.slice AN m cN)).setCell ⟨w.heap.size+1,4,none⟩ (.slice AT m cT):=⟨_,rfl⟩;rw [←hw9]
       have hB9:Blk w9 (w.heap.size+1) 53 #[.slice A n c,.slice B m d,.slice C k e,.slice AN m cN,.slice AT m cT]:=by
        have:=((((hres.set_ 0 (.slice A n c)).set_ 1 (.slice B m d)).set_ 2 (.slice C k e)).set_ 3 (.slice AN m cN)).set_ 4 (.slice AT m cT);rw [←hw9] at this
        simpa using this
       have hb9:Below w.heap.size w w9:=by
        rw [hw9];exact Bel.setCell_ (Bel.setCell_ (Bel.setCell_ (Bel.setCell_ (Bel.setCell_ HR.out.bel (by omega)) (by omega)) (by omega)) (by omega)) (by omega)
       have hk9:Qbf (fun b=>wB.heap.size≤b) wr w9:=by rw [hw9];exact Qwc (fun (e:wB.heap.size≤w.heap.size+1)=>by omega) _ _ _ _ _
       obtain ⟨c0,c1,c2,c3,c4⟩:w9.cell? ⟨w.heap.size+1,0,none⟩=some (.slice A n c)∧w9.cell? ⟨w.heap.size+1,1,none⟩=some (.slice B m d)∧w9.cell? ⟨w.heap.size+1,2,none⟩=some (.slice C k e)∧w9.cell? ⟨w.heap.size+1,3,none⟩=some (.slice AN m cN)∧w9.cell? ⟨w.heap.size+1,4,none⟩=some (.slice AT m cT):=by
        refine ⟨?_,?_,?_,?_,?_⟩ <;> (rw [hB9.cell];rfl)
       refine bodyPost_ret (v:=.agg #[.slice A n c,.slice B m d,.slice C k e,.slice AN m cN,.slice AT m cT]) (by simp [results,results22,go_sem,c0,c1,c2,c3,c4]) rfl ?_;have r1:=HR.out.tw.rd1;have r2:=HR.out.tw.swap.rd1;rw [List.length_map,List.length_range] at r1 r2;refine ⟨AN,cN,AT,cT,rfl,?_,?_,hb9⟩
       · have:=r1.le (hk9.msk.trans (Qba _ _))
         unfold Qou;rw [HLA.out];exact this
       · have:=r2.le (hk9.msk.trans (Qba _ _))
         unfold Qns;rw [HLA.out];exact this
     obtain ⟨b,o,x,y,z,rfl,hx,cx,cy,cz⟩:=HH.out.2.1.at_ haM;obtain ⟨lN,hlN⟩:∃ lN,lN=(List.range a).map (Qgj N):=⟨_,rfl⟩;obtain ⟨lT,hlT⟩:∃ lT,lT=(List.range a).map (Qps N):=⟨_,rfl⟩;rw [←hlN,←hlT] at hR;have HR:=Zh hR;have hlN1:lN.length≤16384:=by rw [hlN,List.length_map,List.length_range];omega
     have hlT1:lT.length≤16384:=by rw [hlT,List.length_map,List.length_range];omega
     have HLNE:=Zh hlN;have HLTE:=Zh hlT;clear hlN hlT;have hok:=HOK.out.arcs _ (Zm hx);have g0:=hok.g0;have g1:=hok.g1;simp only at g0 g1;rw [HLV.out] at g1;obtain ⟨v,rfl⟩:∃ v:Nat,y=v:=⟨y.toNat,by omega⟩;have hvn:v<n:=by omega
     obtain ⟨b2,o2,v1,v2,v3,rfl,hv,vx,vy,vz⟩:=HH.out.1.at_ (i:=v) hvn;have hvo:=HOK.out.verts _ (Zm hv);obtain ⟨t,rfl⟩:∃ t:Nat,v3=(t:Int):=⟨v3.toNat,by have:=hvo.t0;simp only at this;omega⟩;have htk:t<k:=by have h1:=hvo.t1;have:=HLT.out;simp only at h1;omega
     obtain ⟨b3,o3,tb,rfl,htb,t0,t1,AQ,nT,cQ,t2,hrd,hnT,hcT⟩:=HH.out.2.2.at_ htk;have hto:=HOK.out.tabs tb (Zm htb);have hmt:=HOK.out.meet v _ tb hv (by simpa using htb);obtain ⟨i,hi⟩:∃ i:Nat,i=(idx (·.2.1) (N.ar.take a) (v:Int)).length:=⟨_,rfl⟩;have hip:(i:Int)<tb.ins:=by rw [←hmt.1,hi];exact_mod_cast Qiy (f:=(·.2.1)) hx rfl
     have hpi:plI (idx (·.2.1) N.ar (v:Int)) (a:Int)=(i:Int):=by rw [hi];exact plI_idx (f:=(·.2.1)) hx
     have hle:=HLG.out wr hR.kept;obtain ⟨_,_,Ai,ni,ci,li,eI,hli,ki,ri,_,_⟩:=HIN.out.at_ hvn
     cases eI
     rw [Qdg hvn] at hli
     cases hli
     obtain ⟨_,_,Ao,no,co,lo,eO,hlo,ko,ro,_,_⟩:=HOUT.out.at_ hvn
     cases eO
     rw [Qdg hvn] at hlo
     cases hlo
     rw [Nat.zero_add] at ki ko;have ki':=hle _ _ ki;have ko':=hle _ _ ko;have hol:(idx (·.1) N.ar (v:Int)).length=no:=ro.1;have hno:no≤16384:=by have h1:=Qgq (·.1) N.ar N.ar.length (v:Int);rw [List.take_length] at h1;have:=HLA.out;omega
     have hni:ni≤1000000000:=by have h1:=Qgq (·.2.1) N.ar N.ar.length (v:Int);rw [List.take_length] at h1;have:=ri.1;have:=HLA.out;omega
     have HPL:=Zh (Qxl Ai ni ci _ (a:Int) wr (ri.le hle) hni);have HPI:=Zh hpi;have HRO:=Zh (ro.le hle);have HOL:=Zh hol;have HX:=Zh hx
     have HTN:=Zh (fun (b' q:Nat) (hb':(idx (·.1) N.ar (v:Int))[q]?=some (b':Int))=>show ∀ z,tb.costs[i*tb.outs.toNat+q]?=some z→Qau N a b'=z from fun z hz=>by
      obtain ⟨⟨y1,y2,y3⟩,hy,e,hq⟩:=Qvr hb';simp only at e;subst e;exact turnN_eq hx hy hv htb (by rw [←hi,hq];exact hz))
     have HQO:=Zh (fun (q b':Nat) (hb':(idx (·.1) N.ar (v:Int))[q]?=some (b':Int))=>show (q:Int)<tb.outs from by
      obtain ⟨y,hy,e,hq⟩:=Qvr hb';rw [←hmt.2,←hq]
      exact_mod_cast Qiy (f:=(·.1)) hy e)
     have HTA:=Zh (fun (q:Nat) V (hV:Below w.heap.size w V) (hq:(q:Int)<tb.outs)=>Qog AQ nT cQ tb i q V (hrd.below hV) hto hip hq);have cy':=Zc hR.bel (Zn _) cy
     have HSXX:=Zh (show ∀ V,Below wr.heap.size wr V→V.cell? ⟨w.heap.size,0,none⟩=some (.slice (some ⟨b2,o2,none⟩) n c)∧V.cell? ⟨w.heap.size,2,none⟩=some (.slice (some ⟨b3,o3,none⟩) k e)∧V.cell? ⟨w.heap.size+1+1+1,v,none⟩=some (.slice Ao no co)∧V.cell? ⟨b2,o2+v*3+2,none⟩=some (.int .i64 t)∧V.cell? ⟨b3,o3+t*3,none⟩=some (.int .i64 tb.ins)∧V.cell? ⟨b3,o3+t*3+1,none⟩=some (.int .i64 tb.outs)∧V.cell? ⟨b3,o3+t*3+2,none⟩=some (.slice AQ nT cQ) from
      fun V hV=>⟨by rw [(hnet.below hV hnet.lt).cell];rfl,by rw [(hnet.below hV hnet.lt).cell];rfl,Zc hV (Zn _) ko',Zc (Zb hR.bel hV) (Zn _) vz,Zc (Zb hR.bel hV) (Zn _) t0,Zc (Zb hR.bel hV) (Zn _) t1,Zc (Zb hR.bel hV) (Zn _) t2⟩)
     have k1:(a:Int)<(m:Int):=by omega
     have k2:(0:Int)≤(a:Int):=by omega
     have k3:(0:Int)≤(v:Int):=by omega
     have k4:(v:Int)<(n:Int):=by omega
     have k5:(0:Int)≤(t:Int):=by omega
     have k6:(t:Int)<(k:Int):=by omega
     clear hx cx cy cz hok g0 g1 hv vx vy vz hvo htb t0 t1 t2 hrd hnT hcT hto hmt hi hip hpi ki ko ri ro hol hni hnet hle hR
     go_wp2_with fail
     with_reducible refine HPL.out.mono ?_
     rintro r w' ⟨rfl,rfl⟩;rw [HPI.out]
     go_wp2_with fail
     clear HPL ki' cy' x1;obtain ⟨wo,hwo⟩:∃ wo,wo=wr:=⟨_,rfl⟩;subst hwo
     go_loopw [10,11,12] (fun zn zt q V=>∃ (kk:Nat) (An:Option Addr) (cn:Nat) (At:Option Addr) (ct:Nat),kk≤no∧q=.int .i64 kk∧zn=.slice An (nxK N a v kk).length cn∧zt=.slice At (nxK N a v kk).length ct∧Own V wo.heap.size 3 1 An (nxK N a v kk).length cn (Qag (nxK N a v kk))∧Own V wo.heap.size 2 1 At (nxK N a v kk).length ct (Qag (trK N a v kk))∧(∀ g,Qab An=some g→Qab At≠some g)∧Below wo.heap.size wo V) (fun _ _ q _=>no-(intOf q).toNat)
     case atStart=>exact ⟨0,none,0,none,0,Nat.zero_le _,rfl,rfl,rfl,Own.nil _ _ _ _,Own.nil _ _ _ _,(fun g e=>by cases e),Zr _ _⟩
     case round =>
      obtain ⟨kk,An,cn,At,ct,hkk,rfl,rfl,rfl,hon,hot,hdj,hbl⟩:=hrel;have HDJ:=Zh hdj;have HBL:=Zh hbl;have hnl:=nxK_le N a v kk;obtain ⟨nx,hnx⟩:∃ nx,nx=nxK N a v kk:=⟨_,rfl⟩;obtain ⟨tr,htr⟩:∃ tr,tr=trK N a v kk:=⟨_,rfl⟩;have htl:tr.length=nx.length:=by rw [hnx,htr];exact trK_len N a v kk
      rw [←hnx] at hnl hon hot ⊢;rw [←htr] at hot;have HON:=Zh hon;have HOT:=Zh hot;have HNX:=Zh hnx;have HTR:=Zh htr;have HTL:=Zh htl;clear hnx htr htl;have q1:=(HSXX.out wr hbl).2.2.1;have hblz:=hbl.size;clear hon hot hdj hbl
      by_cases hlt2:kk<no
      rotate_left
      · obtain rfl:kk=no:=by omega
        have j2:¬((kk:Int)<(kk:Int)):=by omega
        have hall:=nxK_all HX.out rfl (k:=kk) (by rw [HOL.out];exact Zn _);rw [←HNX.out,←HTR.out] at hall;have HALL:=Zh hall;have HRB:=Zh (HR.out.below HBL.out);have y3:wr.cell? ⟨w.heap.size+1+1,3,none⟩=some (.slice AN lN.length cN):=Zq HRB.out.box;have yl:=HRB.out.box.lt;obtain ⟨W2,hW2⟩:∃ W2,W2=wr.alloc (.cells #[.slice An nx.length cn] 67):=⟨_,rfl⟩;have hbW:Below wr.heap.size wr W2:=by rw [hW2];exact Qah
        have HR2:=Zh (HRB.out.below hbW);have HON2:=Zh (HON.out.below hbW);have HOT2:=Zh (HOT.out.below hbW);have hown:=HR2.out.tw.o1;have hrd:Rds W2 1 (some ⟨wr.heap.size,0,none⟩) 1 [.slice An nx.length cn]:=by rw [hW2];exact (Blk.new wr 67 #[.slice An nx.length cn]).rds rfl
        have hsz:wB.heap.size≤W2.heap.size:=HR2.out.size;have hAN:∀ g,Qab AN=some g→g<wo.heap.size:=fun g e=>(HR.out.tw.o1.lt g e).2
        have hAT:∀ g,Qab AT=some g→g<wo.heap.size:=fun g e=>(HR.out.tw.o2.lt g e).2
        have HAN:=Zh hAN;have HAT:=Zh hAT;have hRD:RdI (msk W2 (GG wB.heap.size W2 AN AT)) An nx.length nx:=(HON2.out.rds.rdI).msk (fun b hb=>⟨by have:=(HON2.out.lt b hb).1;have:=HR.out.size;omega,(HON2.out.lt b hb).2,fun e=>by have:=(HON2.out.lt b hb).1;have:=hAN b e;omega,fun e=>by have:=(HON2.out.lt b hb).1;have:=hAT b e;omega⟩);have HRD:=Zh hRD;have HW2:=Zh hW2;clear hW2 hRD hall hAN hAT
        go_wp2_with (at_builtin;rw [←HW2.out];with_reducible refine Qan rfl (.tmp 129) (.tmp 131) 27 rfl 67 _ 1 24 Qgo underlying27 rfl (by omega) rfl rfl hown hrd (Qce _ _ _) (by omega) (by omega) hsz ?_)
        intro A3 c3 w8 ho8 hg8 hat8;have hB8:=HR2.out.box.grown hg8 (fun e=>by have:=(hown.lt _ e).1;omega);have v5:w8.cell? ⟨w.heap.size+1+1,3,none⟩=some (.slice AN lN.length cN):=Zq hB8;have v6:=hB8.frozen 3;have v7:=hB8.lt;obtain ⟨V3,hV3⟩:∃ V3,V3=w8.setCell ⟨w.heap.size+1+1,3,none⟩ (.slice A3 (lN.length+1) c3):=⟨_,rfl⟩;have HP:=Zh (HR2.out.pushN hz5 HRD.out HON2.out.cap HON2.out.capMax ho8 hg8 hat8);rw [←hV3] at HP
        have HOT3:=Zh (show Own V3 wo.heap.size 2 1 At nx.length ct (Qag tr) from by
         rw [hV3];refine (HOT2.out.far hg8 ?_).far (Qaa _ _ _ _) (.inr (fun e=>by have:=(HOT2.out.lt _ e).1;omega))
         cases e:Qab At with
         | none=>exact .inl rfl
         | some g=>exact .inr (fun e2=>by have:=HAN.out g e2.symm;have:=(HOT2.out.lt g e).1;omega))
        have HA3:=Zh (show ∀ g,Qab A3=some g→Qab At≠some g from fun g e e2=>by
         have h1:=HOT2.out.lt g e2
         rcases hat8 with e3|e3
         · have:=HAN.out g (e3▸e);omega
         · rw [e3] at e;have:=Option.some.inj e;omega)
        have HV3:=Zh hV3;have v4:w8.cell? ⟨w.heap.size+1+1,4,none⟩=some (.slice AT lT.length cT):=Zq hB8;have hz38:V3.heap.size=w8.heap.size:=by rw [hV3];simp [World.setCell]
        clear hown hrd hsz ho8 hg8 hat8 hB8 HW2 hV3;obtain ⟨W4,hW4⟩:∃ W4,W4=V3.alloc (.cells #[.slice At nx.length ct] 34):=⟨_,rfl⟩;have hbW4:Below V3.heap.size V3 W4:=by rw [hW4];exact Qah
        have HR4:=Zh (HP.out.below hbW4);have HOT4:=Zh (HOT3.out.below hbW4);have hown:=HR4.out.tw.o2;have hrd:Rds W4 1 (some ⟨w8.heap.size,0,none⟩) 1 [.slice At nx.length ct]:=by rw [←hz38,hW4];exact (Blk.new V3 34 #[.slice At nx.length ct]).rds rfl
        have hsz:wB.heap.size≤W4.heap.size:=HR4.out.size
        have HRD2:=Zh (show RdI (msk W4 (GG wB.heap.size W4 A3 AT)) At tr.length tr from by
         rw [HTL.out];exact (HOT4.out.rds.rdI).msk (fun b hb=>⟨by have:=(HOT4.out.lt b hb).1;have:=HR.out.size;omega,(HOT4.out.lt b hb).2,fun e=>HA3.out b e hb,fun e=>by have:=(HOT4.out.lt b hb).1;have:=HAT.out b e;omega⟩))
        have HW4:=Zh hW4;clear hW4 hz38
        go_wp2_with (at_builtin;rw [←HV3.out,←HW4.out];with_reducible refine Qan rfl (.tmp 135) (.tmp 137) 51 rfl 34 _ 1 24 infoI64s underlying51 rfl (by omega) rfl rfl hown hrd (Qce _ _ _) (by omega) (by omega) hsz ?_)
        intro A5 c5 w9 ho9 hg9 hat9;clear v5 v6 v7 v4 y3 yl;have hB9:=HR4.out.box.grown hg9 (fun e=>by have:=(hown.lt _ e).1;omega);have v5:w9.cell? ⟨w.heap.size+1+1,4,none⟩=some (.slice AT lT.length cT):=Zq hB9;have v6:=hB9.frozen 4;have v7:=hB9.lt;rw [←HTL.out] at ho9;have HP2:=Zh (HR4.out.pushT hz5 HRD2.out (by rw [HTL.out];exact HOT4.out.cap) HOT4.out.capMax ho9 hg9 hat9);have HFN:=Zh (show (List.range (a+1)).map (Qgj N)=lN ++[nx] by rw [Qju.1,HALL.out.1,HLNE.out])
        have HFT:=Zh (show (List.range (a+1)).map (Qps N)=lT ++[tr] by rw [Qju.2,HALL.out.2,HLTE.out])
        clear hown hrd hsz ho9 hg9 hat9 hB9 HW4
        go_wp2_with fail
        go_roundw
        case rel=>exact ⟨a+1,A3,c3,_,A5,c5,_,by omega,by go_num,by rw [HFN.out,HFT.out];exact HP2.out⟩
        case measure=>simp [intOf];omega
      · obtain ⟨bO,oO,zO,rfl,hzO,hcO⟩:=(HRO.out.below HBL.out).at_ hlt2
        obtain ⟨b',yO,rfl,_,_⟩:=Qey.1 (Zm hzO);have HZO:=Zh hzO;have j1:(kk:Int)<(no:Int):=by omega
        have j2:(0:Int)≤(kk:Int):=by omega
        have HSX:=Zh (fun V (hV:Below wr.heap.size wr V)=>HSXX.out V (Zb HBL.out hV));have HCO:=Zh hcO;have HBW:=Zh (Zb HR.out.bel HBL.out);clear hzO hcO
        go_wp2_with fail
        refine wp_region_held_drew (S:=fun V=>Below wr.heap.size wr V) (by kernel_rfl) (Zr _ _).drew (fun _=>?_);refine tz 0 99 ?_;refine tz 1 100 ?_;refine tz 2 101 ?_;refine tz 3 102 ?_;refine tz 4 103 ?_;refine tz 5 104 ?_;refine tz 6 105 ?_;refine tz 7 106 ?_;refine tz 8 107 ?_;refine tz 9 108 ?_;refine tz 10 109 ?_;refine tz 11 110 ?_;refine Zk 12 (fun K hK=>?_);go_simp;with_reducible refine (HTA.out kk _ (HBW.out.trans ((Zr _ _).drew.mono HBW.out.size)) (HQO.out kk b' HZO.out)).mono ?_
        rintro r w2 ⟨zz,hzz,rfl,hb2⟩;have hb2':Below wr.heap.size wr w2:=(Zr _ _).drew.trans hb2;have HZ:=Zh (HTN.out b' kk HZO.out zz hzz);clear hzz hb2;go_simp;refine hK.out _ _ hb2' (fun _=>?_);clear hK K;refine tz 13 13 ?_;refine Zd ?_;have HB2:=Zh (Zb HBL.out hb2');have HON1:=Zh (HON.out.below hb2');have HOT1:=Zh (HOT.out.below hb2');have q2:=(HSX.out w2 hb2').2.2.1;have hc2:=Zc hb2' (Zn _) HCO.out;have hz2:=hb2'.size;clear hb2' q1 HSX
        by_cases hinf:zz=1152921504606846976
        · have e1:(zz != 1152921504606846976)=false:=by simp [hinf]
          have hout:=nxK_out HZO.out (by rw [HZ.out];exact hinf);rw [←HNX.out,←HTR.out] at hout;have HOUT2:=Zh hout;clear hout hinf
          go_wp2_with fail
          go_roundw
          case rel=>exact ⟨kk+1,An,cn,At,ct,by omega,by go_num,by rw [HOUT2.out.1],by rw [HOUT2.out.1],by rw [HOUT2.out.1];exact HON1.out,by rw [HOUT2.out.1,HOUT2.out.2];exact HOT1.out,HDJ.out,HB2.out⟩
          case measure=>simp [intOf];omega
        · have e1:(zz != 1152921504606846976)=true:=by simp [hinf]
          have hin:=nxK_in HZO.out (by rw [HZ.out];exact hinf);rw [←HNX.out,←HTR.out,HZ.out] at hin;have HIN2:=Zh hin;clear hin hinf;obtain ⟨W3,hW3⟩:∃ W3,W3=w2.alloc (.cells #[.int .i64 (b':Int)] 3):=⟨_,rfl⟩;have hbW:Below w2.heap.size w2 W3:=by rw [hW3];exact Qah
          have HON2:=Zh (HON1.out.below hbW);have HOT2:=Zh (HOT1.out.below hbW);have HB3:=Zh (Zb HB2.out hbW);have hown:=HON2.out;have hrd:Rds W3 1 (some ⟨w2.heap.size,0,none⟩) 1 (Qag [(b':Int)]):=by rw [hW3];exact (Blk.new w2 3 #[.int .i64 (b':Int)]).rds rfl
          have hsz:wo.heap.size≤W3.heap.size:=HB3.out.size;have HW3:=Zh hW3;clear hW3 hbW
          go_wp2_with (at_builtin;rw [←HW3.out];with_reducible refine Qan rfl (.tmp 114) (.tmp 122) 67 rfl 3 _ 1 8 Qbc underlying67 rfl (by omega) rfl rfl hown hrd (Qai _) (by omega) (by omega) hsz ?_)
          intro A3 c3 w8 ho8 hg8 hat8;have HB8:=Zh (Bel.grownOwn HB3.out hg8 hown hsz)
          have HOT8:=Zh (show Own w8 wo.heap.size 2 1 At nx.length ct (Qag tr) from by
           refine HOT2.out.far hg8 ?_
           cases e:Qab At with
           | none=>exact .inl rfl
           | some g=>exact .inr (fun e2=>HDJ.out g e2.symm e))
          have HO8:=Zh ho8
          have HD8:=Zh (show ∀ g,Qab A3=some g→Qab At≠some g∧g<w8.heap.size from fun g e=>⟨fun e2=>by
           rcases hat8 with e3|e3
           · exact HDJ.out g (e3▸e) e2
           · rw [e3] at e;have:=Option.some.inj e;have:=(HOT2.out.lt g e2).2;omega,(ho8.lt g e).2⟩)
          clear hown hrd hsz ho8 hg8 hat8 HW3;obtain ⟨W4,hW4⟩:∃ W4,W4=w8.alloc (.cells #[.int .i64 zz] 2):=⟨_,rfl⟩;have hbW4:Below w8.heap.size w8 W4:=by rw [hW4];exact Qah
          have HOT9:=Zh (HOT8.out.below hbW4);have HO9:=Zh (HO8.out.below hbW4);have HB9:=Zh (Zb HB8.out hbW4);have hown:=HOT9.out;have hrd:Rds W4 1 (some ⟨w8.heap.size,0,none⟩) 1 (Qag [zz]):=by rw [hW4];exact (Blk.new w8 2 #[.int .i64 zz]).rds rfl
          have hsz:wo.heap.size≤W4.heap.size:=HB9.out.size;have hz84:=hbW4.size;have HW4:=Zh hW4;clear hW4 hbW4
          go_wp2_with (at_builtin;rw [←HW4.out];with_reducible refine Qan rfl (.tmp 124) (.tmp 126) 34 rfl 2 _ 1 8 Qms underlying34 rfl (by omega) rfl rfl hown hrd (Qai _) (by omega) (by omega) hsz ?_)
          intro A5 c5 w9 ho9 hg9 hat9;have HB10:=Zh (Bel.grownOwn HB9.out hg9 hown hsz)
          have HO10:=Zh (show Own w9 wo.heap.size 3 1 A3 (nx.length+1) c3 (Qag nx ++Qag [(b':Int)]) from by
           refine HO9.out.far hg9 ?_
           cases e:Qab A3 with
           | none=>exact .inl rfl
           | some g=>exact .inr (fun e2=>(HD8.out g e).1 e2.symm))
          have HO11:=Zh ho9
          have HD10:=Zh (show ∀ g,Qab A3=some g→Qab A5≠some g from fun g e e2=>by
           rcases hat9 with e3|e3
           · exact (HD8.out g e).1 (e3▸e2)
           · rw [e3] at e2;have:=Option.some.inj e2;have:=(HD8.out g e).2;omega)
          have HL1:=Zh (show (nxK N a v (kk+1)).length=nx.length+1 by rw [HIN2.out.1,List.length_append];rfl)
          clear hown hrd hsz ho9 hg9 hat9 HW4
          go_wp2_with fail
          go_roundw
          case rel=>exact ⟨kk+1,A3,c3,A5,c5,by omega,by go_num,by rw [HL1.out],by rw [HL1.out],by rw [HL1.out,HIN2.out.1,Qbv];exact HO10.out,by rw [HL1.out,HIN2.out.2,Qbv];exact HO11.out,HD10.out,HB10.out⟩
          case measure=>simp [intOf];omega
end Go.Proofs.YteaoiabikjnkeaaGreatDoor
