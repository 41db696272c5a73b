/- Parts of the proof: RoO, AsY, On. -/
import Derived.Test.YtdheeddnkdhfeaaGreatDoorH19
namespace Go.Proofs.YtdheeddnkdhfeaaGreatDoor
open Go.RowKit Go.Proofs.Tryz
attribute [local go_sem ↓] Go.wp_at_zero Go.wp_at_succ
abbrev Ent:=Nat×Nat×Nat×Nat
def Qhj (e:Ent):List Value:=[.int .i64 ((e.1:Int)+1),.int .i64 (e.2.1:Int),.int .i64 (e.2.2.1:Int),.int .i64 (e.2.2.2:Int)]
def Qep (l:List Ent):List Value:=l.flatMap Qhj
theorem Quq (l m:List Ent):Qep (l ++m)=Qep l ++Qep m:=by simp [Qep]
theorem Qur (e:Ent):Qep [e]=Qhj e:=by simp [Qep]
theorem Qoz (e:Ent):∀ u∈Qhj e,u.oneCell'=true:=by intro u hu;simp only [Qhj,List.mem_cons,List.not_mem_nil,or_false] at hu;rcases hu with rfl|rfl|rfl|rfl <;> rfl
theorem Qkf:∀ (l:List Ent)(k:Nat)(e:Ent),l[k]?=some e→∀ q,q<4→(Qep l)[k*4+q]?=(Qhj e)[q]?
 | [],k,e,h,_,_=>by simp at h
 | x::t,0,e,h,q,hq=>by
  simp only [Yn,Option.some.injEq] at h;subst h;show (Qhj x ++Qep t)[0*4+q]?=_
  rw [Nat.zero_mul,Yz,Yc (by simpa [Qhj] using hq)]
 | x::t,k+1,e,h,q,hq=>by
  have:=Qkf t k e (by simpa using h) q hq;show (Qhj x ++Qep t)[(k+1)*4+q]?=_
  rw [Yb (by simp [Qhj];omega),←this];congr 1
  simp [Qhj];omega
def EntP (N:Qam) (ls:List (List Int)) (EL:List Ent):Prop:=∀ (k:Nat) (e:Ent),EL[k]?=some e→∃ l x s t,Qfs N ls k e.1 l e.2.1 x e.2.2.1 e.2.2.2 s t
theorem EntP.push {N:Qam} {ls:List (List Int)} {EL:List Ent} {e:Ent} (h:EntP N ls EL) (he:∃ l x s t,Qfs N ls EL.length e.1 l e.2.1 x e.2.2.1 e.2.2.2 s t):EntP N ls (EL ++[e]):=fun k f hk=>by
 rcases Nat.lt_trichotomy k EL.length with e1|e1|e1
 {rw [Yc e1] at hk;exact h k f hk};{subst e1;rw [Yb (Zn _),Yy] at hk;cases hk;exact he};{rw [Yd (by simp;omega)] at hk;cases hk}
structure OvN (w1 V1:World) (F:Nat→Prop) (b5:Nat) (x0 x1 x2 x3 x4:Value) (N:Qam) (ls:List (List Int)) (V:World) (A:Option Addr) (cp:Nat) (EL:List Ent):Prop where
 kept:Qaz F V1 V
 size:V1.heap.size≤V.heap.size
 bel:Below w1.heap.size w1 V
 box:Blk V b5 57 #[x0,x1,x2,x3,x4,.slice A EL.length cp]
 own:Own V V1.heap.size 76 4 A EL.length cp (Qep EL)
 row:EntP N ls EL
section
variable {w1 V1 V V':World} {F:Nat→Prop} {b5:Nat} {x0 x1 x2 x3 x4:Value} {N:Qam} {ls:List (List Int)} {A:Option Addr} {cp:Nat} {EL:List Ent}
theorem OvN.below (h:OvN w1 V1 F b5 x0 x1 x2 x3 x4 N ls V A cp EL)(hb:Below V.heap.size V V'):OvN w1 V1 F b5 x0 x1 x2 x3 x4 N ls V' A cp EL :=
 ⟨h.kept.trans (Qaz.below hb) h.size,Yx h.size hb.size,Zb h.bel hb,h.box.below hb h.box.lt,h.own.below hb,h.row⟩
theorem OvN.le (h:OvN w1 V1 F b5 x0 x1 x2 x3 x4 N ls V A cp EL):Le (msk V1 F) V:=h.kept.msk.trans (Qau _ _)
theorem OvN.push {A':Option Addr}{cp':Nat}{e:Ent}(h:OvN w1 V1 F b5 x0 x1 x2 x3 x4 N ls V A cp EL)(hF:∀ b,F b→b<V1.heap.size∧b≠b5)(hb:b5<V1.heap.size)(hw:w1.heap.size≤b5)
 (ho:Own V' V1.heap.size 76 4 A' (EL.length+1) cp' (Qep EL ++Qhj e)) (hg:V.grownBy V' (Qab A)) (he:∃ l x s t,Qfs N ls EL.length e.1 l e.2.1 x e.2.2.1 e.2.2.2 s t) :
 OvN w1 V1 F b5 x0 x1 x2 x3 x4 N ls (V'.setCell ⟨b5,5,none⟩ (.slice A' (EL.length+1) cp')) A' cp' (EL ++[e]):=by
 have hA:∀ g,Qab A=some g→V1.heap.size≤g:=fun g e=>(h.own.lt g e).1
 have hz:V1.heap.size≤V'.heap.size:=Yx h.size hg.size;have hx:=h.box.grown hg (fun e=>by have:=hA _ e;omega);refine ⟨?_,by simpa [World.setCell] using hz,?_,?_,?_,h.row.push he⟩;{refine (h.kept.trans (Qaz.grown hg (fun b hb' e=>by have:=hA _ e;have:=(hF b hb').1;omega)) h.size).trans (Qaz.set V' b5 5 _ (fun e=>(hF b5 e).2 rfl)) hz};{exact Zi (h.bel.grown hg h.bel.size (fun g e=>by have:=hA _ e;have:=h.bel.size;omega)) hw};{rw [Yp];have:=hx.set_ 5 (.slice A' (EL.length+1) cp');simpa using this};{rw [Yp,Quq,Qur];exact ho.far (Qad _ _ _ _) (.inr (fun e=>by have:=(ho.lt b5 e).1;omega))}
end
theorem Qlb {G:Nat→Prop}{W:World}{g:Nat}(hg:¬G g)(v0 v1 v2 v3 v4 v5:Value):Qaz G W ((((((W.setCell ⟨g,0,none⟩ v0).setCell ⟨g,1,none⟩ v1).setCell ⟨g,2,none⟩ v2).setCell ⟨g,3,none⟩ v3).setCell ⟨g,4,none⟩ v4).setCell ⟨g,5,none⟩ v5):=fun b hb hl=>by
 have key:∀ (W':World) (o:Nat) (v:Value),b<W'.heap.size→(W'.setCell ⟨g,o,none⟩ v).heap[b]?=W'.heap[b]?∧b<(W'.setCell ⟨g,o,none⟩ v).heap.size:=fun W' o v h'=>⟨(Qad W' g o v).block b h' (fun e=>hg (by cases e;exact hb)),by simpa [World.setCell] using h'⟩
 obtain ⟨e0,h0⟩:=key W 0 v0 hl;obtain ⟨e1,h1⟩:=key _ 1 v1 h0;obtain ⟨e2,h2⟩:=key _ 2 v2 h1;obtain ⟨e3,h3⟩:=key _ 3 v3 h2;obtain ⟨e4,h4⟩:=key _ 4 v4 h3;obtain ⟨e5,h5⟩:=key _ 5 v5 h4;rw [e5,e4,e3,e2,e1,e0]
def Qwc (w:World)(xA xB xC xQ:Value)(L:Nat)(N:Qam) (ls:List (List Int)) (r:Ending) (w':World):Prop :=
 ∃ (G:Option Addr) (cg:Nat) (AE:Option Addr) (ce:Nat) (EL:List Ent),r=.returned (.agg #[xA,xB,xC,xQ,.slice G L cg,.slice AE EL.length ce])∧RdG w' G L (Qae N.ar ls)∧Rds w' 4 AE EL.length (Qep EL)∧EL.length=Qbw (Qae N.ar ls)∧EntP N ls EL∧Below w.heap.size w w'
theorem Qxr:(Tryz.prog.info? 76).map (fun i=>(i.zero,i.size,i.bytes))=some (some (.agg #[.int .i64 0,.int .i64 0,.int .i64 0,.int .i64 0]),4,32):=by kernel_rfl
set_option maxHeartbeats 1000000 in
theorem Qpu (xA xB xC xQ xE:Value)(G:Option Addr)(L cg i c:Nat)(ar:List Tri) (ls:List (List Int)) (l:List Int) (x:Qan) (V0 w:World) (hle:Le V0 w) (h:RdG V0 G L (Qae ar ls)) (hl:ls[i]?=some l) (hx:(Qaf ar l)[c]?=some x) (hL:L≤1000000) (hc:c≤1000000) :
 Calls prog 26 #[.agg #[xA,xB,xC,xQ,.slice G L cg,xE],.int .i64 ((i:Int)+1),.int .i64 c] w fun e w'=>∃ A1 n1 c1 A2 n2 c2,e=.returned (.agg #[.slice A1 n1 c1,.slice A2 n2 c2])∧RdI V0 A1 n1 x.1∧RdI V0 A2 n2 x.2∧Below w.heap.size w w':=by
 have hiL:i<L:=by{rw [←h.1];unfold Qae;rw [List.length_map];exact (Zs hl).1};obtain ⟨row,b,o,A',n',c',hrow,rfl,g1,g2,g3⟩:=h.at_ hiL;have hrow':row=Qaf ar l:=by{unfold Qae at hrow;rw [Yt,hl] at hrow;exact (Yv hrow).symm};subst hrow';have hcn:c<n':=by rw [←g2.1];exact (Zs hx).1
 obtain ⟨x',rb,ro,A1,n1,c1,A2,n2,c2,hx',rfl,k1,k2,k3,k4,k5⟩:=g2.at_ hcn;rw [hx] at hx';cases hx';replace g1:=hle _ _ g1
 replace k1:=hle _ _ k1
 replace k3:=hle _ _ k3
 have HK2:=Zh k2;have HK4:=Zh k4;have i1:¬((i:Int)+1<1):=by omega
 have i2:¬((i:Int)+1 > L):=by omega
 have i3:¬((c:Int)<0):=by omega
 have i4:¬((n':Int)≤c):=by omega
 have i5:(i:Int)+1-1=i:=by omega
 have i6:(i:Int)<L:=by omega
 have i7:0≤(i:Int):=by omega
 have i8:(c:Int)<n':=by omega
 have i9:0≤(c:Int):=by omega
 have wl:IntKind.i64.wrap (i:Int)=(i:Int):=IntWalk.i64_in _ (by omega);have z1:=Qak g1;have z2:=Qak k1;simp only at z1 z2;obtain ⟨w1,hw1⟩:=Zx ((w.alloc (.cells #[xA,xB,xC,xQ,.slice (some ⟨b,o,none⟩) L cg,xE] 57)).alloc (.cells #[.slice none 0 0,.slice none 0 0] 73));have hb1:Below w.heap.size w w1:=by rw [hw1];exact Qah
 have g1':=Zc hb1 (Zn _) g1;have k1':=Zc hb1 (Zn _) k1;have k3':=Zc hb1 (Zn _) k3;rw [hw1] at g1' k1' k3';clear h hl hx hrow hle g1 g2 k1 k2 k3 k4 k5 hw1 hb1;go_enter func26,ntmps26
 go_wp2_with fail
 obtain ⟨w2,hw2⟩:=Zx ((w.alloc (.cells #[xA,xB,xC,xQ,.slice (some ⟨b,o,none⟩) L cg,xE] 57)).alloc (.cells #[.slice A1 n1 c1,.slice A2 n2 c2] 73));rw [←hw2];have hb2:Below w.heap.size w w2:=by rw [hw2];exact Qah
 have hB2:Blk w2 (w.heap.size+1) 73 #[.slice A1 n1 c1,.slice A2 n2 c2]:=by{rw [hw2];refine Blk.new' _ _ _ ?_;simp};clear hw2 g1' k1' k3';obtain ⟨c0,c1',f0,f1⟩:=hB2.two;refine bodyPost_ret (v:=.agg #[.slice A1 n1 c1,.slice A2 n2 c2]) (by simp [results,results26,go_sem,c0,c1']) rfl ?_;exact ⟨_,_,_,_,_,⟨_,rfl⟩,HK2.out,HK4.out,hb2⟩
theorem Qja (xA xB xC xQ xE:Value)(G:Option Addr)(L cg i c:Nat)(ar:List Tri) (ls:List (List Int)) (l:List Int) (x:Qan) (w:World) (h:RdG w G L (Qae ar ls)) (hl:ls[i]?=some l) (hx:(Qaf ar l)[c]?=some x) (hL:L≤1000000) (hc:c≤1000000) :
 Calls prog 26 #[.agg #[xA,xB,xC,xQ,.slice G L cg,xE],.int .i64 ((i:Int)+1),.int .i64 c] w fun e w'=>∃ A1 n1 c1 A2 n2 c2,e=.returned (.agg #[.slice A1 n1 c1,.slice A2 n2 c2])∧RdI w' A1 n1 x.1∧RdI w' A2 n2 x.2∧Below w.heap.size w w' :=
 (Qpu xA xB xC xQ xE G L cg i c ar ls l x w w (fun _ _ h=>h) h hl hx hL hc).mono (fun _ _ ⟨A1,n1,c1,A2,n2,c2,h1,h2,h3,h4⟩=>⟨A1,n1,c1,A2,n2,c2,h1,h2.below h4,h3.below h4,h4⟩)
set_option maxHeartbeats 4000000 in
set_option maxRecDepth 20000 in
theorem Qsb (A B C Q:Option Addr)(n m k c d e L cq:Nat)(N:Qam) (ls:List (List Int)) (w:World) (h:Qbz w A B C n m k N) (hok:Qap N) (hq:RdT w Q L ls) (hP:Qat N.vs.length ls) (hNC:Qbw (Qae N.ar ls)≤1000000000) :
 Calls prog 18 #[.agg #[.slice A n c,.slice B m d,.slice C k e],.agg #[.slice Q L cq]] w (Qwc w (.slice A n c) (.slice B m d) (.slice C k e) (.slice Q L cq) L N ls):=by
 have HGT:=Zh (fun V (hV:Below w.heap.size w V)=>Qsd A B C Q n m k c d e L cq N ls V (h.below hV) hok (hq.below hV) hP);have HP:=Zh hP;have HLL:=Zh hq.1;have l6:L≤6:=by rw [←hq.1];exact hP.l6
 have hlv:=hok.lv;have hla:=hok.la;obtain ⟨NC,hNCe⟩:=Zx (Qbw (Qae N.ar ls));rw [←hNCe] at hNC;have HNC:=Zh hNCe;clear h hok hq hP hNCe;go_enter func18,ntmps18
 go_wp2_with fail
 (refine Qaj ?_;intro w1 hw1);have hb1:Below w.heap.size w w1:=by rw [hw1];exact Qah
 have hX:Blk w1 w.heap.size 26 #[.slice A n c,.slice B m d,.slice C k e]:=by{rw [hw1];refine Blk.alloc (Blk.alloc ?_ _) _;exact Blk.new _ _ _};have hY:Blk w1 (w.heap.size+1) 29 #[.slice Q L cq]:=by{rw [hw1];refine Blk.alloc ?_ _;refine Blk.new' _ _ _ ?_;simp};have hZ:Blk w1 (w.heap.size+1+1) 57 #[.slice none 0 0,.slice none 0 0,.slice none 0 0,.slice none 0 0,.slice none 0 0,.slice none 0 0]:=by{rw [hw1];refine Blk.new' _ _ _ ?_;simp};clear hw1
 have HSX:=Zh (show ∀ V,Below w1.heap.size w1 V→V.cell? ⟨w.heap.size,0,none⟩=some (.slice A n c)∧V.cell? ⟨w.heap.size,1,none⟩=some (.slice B m d)∧V.cell? ⟨w.heap.size,2,none⟩=some (.slice C k e)∧V.cell? ⟨w.heap.size+1,0,none⟩=some (.slice Q L cq) from
  fun V hV=>⟨by rw [(hX.below hV hX.lt).cell];rfl,by rw [(hX.below hV hX.lt).cell];rfl,by rw [(hX.below hV hX.lt).cell];rfl,by rw [(hY.below hV hY.lt).cell];rfl⟩)
 refine wp_region_held_drew (S:=fun V=>Below w1.heap.size w1 V) (by kernel_rfl) (Zr _ _).drew (fun _=>?_);refine tzd 0 10 ?_;refine wpAnyH_ready (rs:=[4,6]) (by kernel_rfl) (by simp) ?_;refine AllReadyH.cons (o:=_) rfl (fun K hK=>?_) (AllReadyH.cons (o:=_) rfl (fun K hK=>?_) AllReadyH.nil);{go_simp;(with_reducible refine (HGT.out _ (hb1.trans (Zr _ _).drew)).mono ?_);(rintro r w2 ⟨G,cg,rfl,hG,hb2⟩;go_simp;have hb2':Below w1.heap.size w1 w2:=(Zr _ _).drew.trans hb2;refine hK.out _ _ hb2' (fun _=>?_);clear hK K;refine tz 5 15 ?_;refine Zk 6 (fun K hK=>?_);go_simp;refine hK.out _ _ (Zb hb2' Qah) (fun _=>?_);clear hK K;refine Zk 7 (fun K hK=>?_);go_simp;refine hK.out _ _ (Zb hb2' Qah) (fun _=>?_);clear hK K;refine Zd ?_;obtain ⟨V1,hV1⟩:=Zx (w2.alloc (.cells #[.slice A n c,.slice B m d,.slice C k e,.slice Q L cq,.slice G L cg,.slice none 0 0] 57));rw [←hV1];have hb2V:Below w2.heap.size w2 V1:=by rw [hV1];exact Qah);(have hBX':Blk V1 w2.heap.size 57 #[.slice A n c,.slice B m d,.slice C k e,.slice Q L cq,.slice G L cg,.slice none 0 0]:=by rw [hV1];exact Blk.new _ _ _);(have hbV:=Zb hb2' hb2V;clear hV1;obtain ⟨b5,hb5⟩:=Zx w2.heap.size;have hBX:Blk V1 b5 57 #[.slice A n c,.slice B m d,.slice C k e,.slice Q L cq,.slice G L cg,.slice none 0 0]:=by rw [hb5];exact hBX');(obtain ⟨F,hFe⟩:∃ F:Nat→Prop,F=fun b=>w1.heap.size≤b∧b<w2.heap.size:=⟨_,rfl⟩);(have hG1:RdG (msk V1 F) G L (Qae N.ar ls):=hG.le ((Qaz.msk (Qaz.below hb2V)).trans (Qbe (fun b hb=>by rw [hFe];exact hb)));have hb51:b5<V1.heap.size:=hBX.lt);(have hb52:w1.heap.size≤b5:=by rw [hb5];exact hb2'.size);have hFF:∀ b,F b→b<V1.heap.size∧b≠b5:=fun b hb=>by{rw [hFe] at hb;have:=hb2V.size;exact ⟨by omega,by omega⟩};(have hFL:∀ b,F b→w1.heap.size≤b:=fun b hb=>by rw [hFe] at hb;exact hb.1);rw [←hb5];clear hG hFe hb5 hBX' hb2V hb2 hb2';exact Kaa};{go_simp;(have hb2:Below w1.heap.size w1 (w1.alloc (.cells #[.slice none 0 0,.slice none 0 0,.slice none 0 0,.slice none 0 0,.slice none 0 0,.slice none 0 0] 57)).drew:=((Zr _ _).alloc (Zn _) _).drew;refine hK.out _ _ hb2 (fun _=>?_);clear hK K;refine Zk 4 (fun K hK=>?_);go_simp;with_reducible refine (HGT.out _ (Zb hb1 hb2)).mono ?_);(rintro r w2 ⟨G,cg,rfl,hG,hb3⟩;go_simp;have hb2':Below w1.heap.size w1 w2:=Zb hb2 hb3;refine hK.out _ _ hb2' (fun _=>?_);clear hK K;refine tz 5 15 ?_;have hBo:Blk w2 w1.heap.size 57 #[.slice none 0 0,.slice none 0 0,.slice none 0 0,.slice none 0 0,.slice none 0 0,.slice none 0 0]:=((Blk.new w1 _ _).drew).below hb3 (Blk.new w1 57 #[.slice none 0 0,.slice none 0 0,.slice none 0 0,.slice none 0 0,.slice none 0 0,.slice none 0 0]).drew.lt;obtain ⟨b5,hb5⟩:=Zx w1.heap.size;have hbo:Blk w2 b5 57 #[.slice none 0 0,.slice none 0 0,.slice none 0 0,.slice none 0 0,.slice none 0 0,.slice none 0 0]:=by rw [hb5];exact hBo);(have HB5:=Zh hb5;have hz3:w1.heap.size+1≤w2.heap.size:=by have:=hBo.lt;omega);rw [←hb5];clear hb5 hBo;have z0:w2.cell? ⟨b5,0,none⟩=some (.slice none 0 0):=Zq hbo;have z1:w2.cell? ⟨b5,1,none⟩=some (.slice none 0 0):=Zq hbo;have z2:w2.cell? ⟨b5,2,none⟩=some (.slice none 0 0):=Zq hbo;have z3:w2.cell? ⟨b5,3,none⟩=some (.slice none 0 0):=Zq hbo;have z4:w2.cell? ⟨b5,4,none⟩=some (.slice none 0 0):=Zq hbo;have z5:w2.cell? ⟨b5,5,none⟩=some (.slice none 0 0):=Zq hbo;have f0:=hbo.frozen 0;have f1:=hbo.frozen 1;have f2:=hbo.frozen 2;have f3:=hbo.frozen 3;have f4:=hbo.frozen 4;have f5:=hbo.frozen 5;have zl:=hbo.lt;refine Zk 7 (fun K hK=>?_);go_simp;obtain ⟨V1,hV1⟩:=Zx ((((((w2.setCell ⟨b5,0,none⟩ (.slice A n c)).setCell ⟨b5,1,none⟩ (.slice B m d)).setCell ⟨b5,2,none⟩ (.slice C k e)).setCell ⟨b5,3,none⟩ (.slice Q L cq)).setCell ⟨b5,4,none⟩ (.slice G L cg)).setCell ⟨b5,5,none⟩ (.slice none 0 0));rw [←hV1];have hBX:Blk V1 b5 57 #[.slice A n c,.slice B m d,.slice C k e,.slice Q L cq,.slice G L cg,.slice none 0 0]:=by{have:=(((((hbo.set_ 0 (.slice A n c)).set_ 1 (.slice B m d)).set_ 2 (.slice C k e)).set_ 3 (.slice Q L cq)).set_ 4 (.slice G L cg)).set_ 5 (.slice none 0 0);rw [←hV1] at this;simpa using this};have hbV:Below w1.heap.size w1 V1:=by{(rw [hV1];have hle:w1.heap.size≤b5:=by rw [HB5.out];exact Zn _);exact Zi (Zi (Zi (Zi (Zi (Zi hb2' hle) hle) hle) hle) hle) hle};(have hk9:Qaz (fun b=>b≠b5) w2 V1:=by rw [hV1];exact Qlb (fun e=>e rfl) _ _ _ _ _ _);(have hzV:V1.heap.size=w2.heap.size:=by rw [hV1];simp [World.setCell]);(refine hK.out _ _ (by rw [HB5.out];exact hbV) (fun _=>?_);clear hK K;refine Zd ?_;obtain ⟨F,hFe⟩:∃ F:Nat→Prop,F=fun b=>w1.heap.size+1≤b∧b<w2.heap.size:=⟨_,rfl⟩);have hFF:∀ b,F b→b<V1.heap.size∧b≠b5:=fun b hb=>by{rw [hFe] at hb;rw [hzV,HB5.out];exact ⟨by omega,by omega⟩};have hG1:RdG (msk V1 F) G L (Qae N.ar ls):=by{refine hG.le (Le.trans (Qbe (G':=F) (fun b hb=>?_)) (Qaz.msk (hk9.mono (fun b hb=>(hFF b hb).2))));rw [hFe];have h1:=hb.1;have h2:=hb.2;simp at h1;exact ⟨h1,h2⟩};(have hb51:b5<V1.heap.size:=hBX.lt);(have hb52:w1.heap.size≤b5:=by rw [HB5.out];exact Zn _);(have hFL:∀ b,F b→w1.heap.size≤b:=fun b hb=>by rw [hFe] at hb;omega);clear hG hFe HB5 hbo hb2 hb2' hb3 hV1 hk9 hzV hz3 z0 z1 z2 z3 z4 z5 f0 f1 f2 f3 f4 f5 zl;exact Kaa}
theorem Qtg {N:Qam} {ls:List (List Int)} {EL:List Ent} (hE:EntP N ls EL) (hEl:EL.length=Qbw (Qae N.ar ls)) {k j c p q a b:Nat} {l:List Int} {x:Qan} (hI:Qfs N ls k j l c x p q a b) :
 EL[k]?=some (j,c,p,q)∧∀ i f,i<k→EL[i]?=some f→f≠(j,c,p,q):=by have hk:=hI.lt.2.2.1;rw [←hEl] at hk;obtain ⟨e,he⟩:∃ e,EL[k]?=some e:=⟨_,Zg hk⟩;obtain ⟨l',x',s',t',hI'⟩:=hE _ e he;obtain ⟨g1,_,g3,_,g5,g6,_,_⟩:=hI.inj hI';obtain ⟨e1,e2,e4,e5⟩:=e;simp only at g1 g3 g5 g6;subst g1;subst g3;subst g5;subst g6;refine ⟨he,fun i f hi hf hfe=>?_⟩;subst hfe;obtain ⟨l'',x'',s'',t'',hI''⟩:=hE _ _ hf;have h5:=hI''.hl;simp only at h5;rw [hI.hl] at h5;cases h5;have h6:=hI''.hx;simp only at h6;rw [hI.hx] at h6;cases h6;have h7:=hI''.hk;have h8:=hI.hk;simp only at h7;omega
/-! law21.known's chain. -/
theorem Qhg {l:List Int}{j:Nat}{x:Int} (h:l[j]?=some x):Qag (l.take (j+1))=Qag (l.take j) ++Qag [x]:=by rw [Yf (Zs h).1,(Zs h).2,Qbg]
set_option maxHeartbeats 4000000 in
set_option maxRecDepth 20000 in
theorem Qvg (g:Nat)(N:Qam)(Q:Option Addr)(L cq n:Nat) (ls:List (List Int)) (w:World) (h:Qfh w g N) (hN:Qap N) (hq:RdT w Q L ls) (hP:Qat n ls) (hn:N.vs.length=n) :
 Calls prog 89 #[.pointer (some ⟨g,0,none⟩),.agg #[.slice Q L cq]] w fun e w'=>∃ o,e=.returned (.tuple #[.pointer (some ⟨o,0,none⟩),.nilIface])∧Qgh (msk w' (fun b=>w.heap.size≤b∧b<w'.heap.size)) o N.ar ls∧Below w.heap.size w w':=by
 have HG:=Zh h;have HN:=Zh hN;have HT:=Zh hq;have HP:=Zh hP;have HVN:=Zh hn;have hn4:n≤4096:=by rw [←hn];exact hN.lv
 have HM:=Zh hN.la;have l6:L≤6:=by rw [←hq.1];exact hP.l6
 clear h hN hq hP hn;go_enter func89,ntmps89
 go_wp2_with fail
 (refine Qaj ?_;intro w1 hw1);have hb1:Below w.heap.size w w1:=by rw [hw1];exact Qah
 have hQ:Blk w1 w.heap.size 132 #[.slice Q L cq]:=by rw [hw1];exact Qbi
 have hzz1:w.heap.size+1≤w1.heap.size:=by rw [hw1];simp
 clear hw1
 have HSX:=Zh (show ∀ V,Below w1.heap.size w1 V→V.cell? ⟨w.heap.size,0,none⟩=some (.slice Q L cq) from fun V hV=>by
  have:=(hQ.below hV hQ.lt).cell 0
  simpa using this)
 refine wp_region_held_drew (S:=fun V=>Below w1.heap.size w1 V) (by kernel_rfl) (Zr _ _).drew (fun _=>?_);refine tz 0 14 ?_;refine tz 2 16 ?_;refine Zk 1 (fun K hK=>?_);go_simp;with_reducible refine (Qmh g N _ (HG.out.below (show Below w.heap.size w w1.drew from Qah))).mono ?_
 rintro e w' ⟨rfl,rfl⟩;rw [HVN.out];go_wp2_with fail
 refine hK.out _ _ (Zr _ _).drew (fun _=>?_);clear hK K;refine Zk 3 (fun K hK=>?_);go_simp;with_reducible refine (Qiz Q n L cq ls _ (HT.out.below (show Below w.heap.size w w1.drew from Qah)) HP.out hn4).mono ?_
 rintro e w2 ⟨rfl,hb2⟩;have hb12:Below w1.heap.size w1 w2:=Zb Qah hb2;clear hb2;go_wp2_with fail
 refine hK.out _ _ hb12 (fun _=>?_);clear hK K;refine tz 4 6 ?_;refine Zd ?_;have hbw2:=Zb hb1 hb12;go_wp2_with fail
 refine wp_region_held_drew (S:=fun V=>Below w1.heap.size w1 V) (by kernel_rfl) hb12.drew (fun _=>?_);refine tz 0 21 ?_;refine tzb 2 23 ?_;refine Zk 1 (fun K hK=>?_);go_simp;with_reducible refine (Qtz Q L cq ls _ (HT.out.below (show Below w.heap.size w w2.drew from Qah)) (by omega) (fun l hl=>by have:=(HP.out.lvl l hl).len;omega)).mono ?_
 rintro e w3 ⟨Q3,cq3,rfl,hq3,hq3a,hq3b,hb3⟩;have hb23:Below w2.heap.size w2 w3:=(Zr _ w2).drew.trans hb3;have hq3:RdT (msk w3 (fun b=>w2.heap.size≤b∧b<w3.heap.size)) Q3 L ls:=hq3;have hb13:Below w1.heap.size w1 w3:=Zb hb12 hb23;have hbw3:=Zb hbw2 hb23;clear hb3;go_wp2_with fail
 refine hK.out _ _ hb13 (fun _=>?_);clear hK K;refine Zk 4 (fun K hK=>?_);go_simp;with_reducible refine (Qxe g N Q L cq n ls w3 (HG.out.below hbw3) HN.out (HT.out.below hbw3) HP.out HVN.out).mono ?_
 rintro e w4 ⟨G4,rfl,hg4,hb4⟩;have hb14:Below w1.heap.size w1 w4:=Zb hb13 hb4;have hbw4:=Zb hbw3 hb4;go_wp2_with fail
 refine hK.out _ _ hb14 (fun _=>?_);clear hK K;refine tz 5 26 ?_;refine Zk 6 (fun K hK=>?_);go_simp;refine hK.out _ _ (Bel.alloc hb14) (fun _=>?_);clear hK K;refine tz 7 7 ?_;refine Zd ?_;obtain ⟨w5,hw5⟩:=Zx (w4.alloc (.cells #[.slice Q3 L cq3,.slice none 0 0,.slice none 0 0,.slice G4 L L,.slice none 0 0,.int .i64 0] 208));rw [←hw5];have hb45:Below w4.heap.size w4 w5:=by rw [hw5];exact Qah
 have hO5:Blk w5 w4.heap.size 208 #[.slice Q3 L cq3,.slice none 0 0,.slice none 0 0,.slice G4 L L,.slice none 0 0,.int .i64 0]:=by rw [hw5];exact Blk.new _ _ _
 have hz5:w5.heap.size=w4.heap.size+1:=by rw [hw5];simp
 clear hw5 HSX hQ;have hz12:=hb12.size;have hz23:=hb23.size;have hz34:=hb4.size;have HQ4:=Zh (show RdT (msk w4 (fun b=>w.heap.size≤b∧b<w4.heap.size)) Q3 L ls from hq3.le (Le.trans (Qaz.msk (Qaz.below hb4 |>.mono (fun b hb=>hb))) (Qbe (fun b hb=>⟨by omega,by omega⟩))));have HG4:=Zh (show RdG (msk w4 (fun b=>w.heap.size≤b∧b<w4.heap.size)) G4 L (Qae N.ar ls) from hg4.le (Qbe (fun b hb=>⟨by omega,hb.2⟩)));have HCQ:=Zh (And.intro hq3a hq3b);clear hq3 hg4 hb4 hb23 hb12 hb13 hb14 hbw2 hbw3 hq3a hq3b;go_wp2_with fail
 with_reducible refine (Qgk g N w5 (HG.out.below (Zb hbw4 hb45))).mono ?_
 rintro e w' ⟨rfl,rfl⟩;have hm:N.ar.length≤16384:=HM.out;generalize hMM:N.ar.length=M at *;have HML:=Zh hMM;clear hMM;go_wp2_with fail
 go_loopw [30] (fun q W=>w4.heap.size+1≤W.heap.size∧Below w4.heap.size w4 W∧∃ (j:Nat) (F:Option Addr) (cF:Nat) (T:Option Addr) (cT:Nat),j≤M∧q=.int .i64 j∧Blk W w4.heap.size 208 #[.slice Q3 L cq3,.slice F j cF,.slice T j cT,.slice G4 L L,.slice none 0 0,.int .i64 0]∧Own W (w4.heap.size+1) 3 1 F j cF (Qag ((N.ar.map (·.1)).take j))∧Own W (w4.heap.size+1) 3 1 T j cT (Qag ((N.ar.map (·.2.1)).take j))∧Dj F T) (fun q _=>M-(intOf q).toNat)
 case atStart=>exact ⟨by omega,hb45,0,none,0,none,0,Nat.zero_le _,rfl,hO5,Own.nil _ _ _ _,Own.nil _ _ _ _,.inl rfl⟩
 case round =>
  clear hb45 hO5 hz5;obtain ⟨hzwr,hbwr,j,F,cF,T,cT,hj,rfl,hOwr,hoF,hoT,hdj⟩:=hrel;by_cases hlt:j<M
  · obtain ⟨⟨x,y,z⟩,hx⟩:∃ x,N.ar[j]?=some x:=⟨_,Zg (by rw [HML.out];exact hlt)⟩;have HNF:=Zh (Qhg (l:=N.ar.map (·.1)) (j:=j) (x:=x) (by rw [Yt,hx];rfl));have HNT:=Zh (Qhg (l:=N.ar.map (·.2.1)) (j:=j) (x:=y) (by rw [Yt,hx];rfl));have HFR:=Zh (show ∀ V,Below w4.heap.size w4 V→Calls prog 143 #[.pointer (some ⟨g,0,none⟩),.int .i64 j] V fun e w'=>e=.returned (.int .i64 x)∧V=w' from fun V hV=>Qgs g j N _ V (HG.out.below (Zb hbw4 hV)) hx);have HTO:=Zh (show ∀ V,Below w4.heap.size w4 V→Calls prog 144 #[.pointer (some ⟨g,0,none⟩),.int .i64 j] V fun e w'=>e=.returned (.int .i64 y)∧V=w' from fun V hV=>Qfj g j N _ V (HG.out.below (Zb hbw4 hV)) hx);(have i1:0≤(j:Int):=by omega);(have i2:(j:Int)<M:=by omega);clear hx;(go_wp2_with fail);refine wp_region_held_drew (S:=fun V=>Below w4.heap.size w4 V) (by kernel_rfl) hbwr.drew (fun _=>?_);refine tzd 0 33 ?_;refine tzb 5 38 ?_;refine wpAnyH_ready (rs:=[4,7]) (by kernel_rfl) (by simp) ?_;refine AllReadyH.cons (o:=_) rfl (fun K hK=>?_) (AllReadyH.cons (o:=_) rfl (fun K hK=>?_) AllReadyH.nil)
    focus
     obtain ⟨o0,o1,o2,o3,o4,o5⟩:=hOwr.six;go_simp;refine hK.out _ _ hbwr.drew (fun _=>?_);clear hK K o0 o1 o2 o3 o4 o5;refine Zk 7 (fun K hK=>?_);go_simp;with_reducible refine (HFR.out _ hbwr.drew).mono ?_
     rintro e w' ⟨rfl,rfl⟩
     go_wp2_with fail
     refine hK.out _ _ hbwr.drew (fun _=>?_);clear hK K;refine Zk 8 (fun K hK=>?_);go_simp;refine hK.out _ _ ((hbwr.alloc (by omega) _).drew) (fun _=>?_);clear hK K
    rotate_left
    focus
     go_simp;with_reducible refine (HFR.out _ hbwr.drew).mono ?_
     rintro e w' ⟨rfl,rfl⟩
     go_wp2_with fail
     refine hK.out _ _ hbwr.drew (fun _=>?_);clear hK K;refine wpAnyH_ready (rs:=[4,8]) (by kernel_rfl) (by simp) ?_;refine AllReadyH.cons (o:=_) rfl (fun K hK=>?_) (AllReadyH.cons (o:=_) rfl (fun K hK=>?_) AllReadyH.nil)
     focus
      obtain ⟨o0,o1,o2,o3,o4,o5⟩:=hOwr.six;go_simp;refine hK.out _ _ hbwr.drew (fun _=>?_);clear hK K o0 o1 o2 o3 o4 o5;refine Zk 8 (fun K hK=>?_);go_simp;refine hK.out _ _ ((hbwr.alloc (by omega) _).drew) (fun _=>?_);clear hK K
     rotate_left
     focus
      go_simp;refine hK.out _ _ ((hbwr.alloc (by omega) _).drew) (fun _=>?_);clear hK K;have o1:=fun ob=>(hOwr.alloc ob).six.2.1
      have o2:=fun ob=>(hOwr.alloc ob).six.2.2.1
      refine Zk 4 (fun K hK=>?_);go_simp;refine hK.out _ _ ((hbwr.alloc (by omega) _).drew) (fun _=>?_);clear hK K o1 o2
    all_goals
     obtain ⟨WA,hWA⟩:=Zx ((wr.alloc (.cells #[.int .i64 x] 3)).drew);rw [←hWA];have hbA:Below wr.heap.size wr WA:=by rw [hWA];exact Qah
     have hrA:Rds WA 1 (some ⟨wr.heap.size,0,none⟩) 1 (Qag [x]):=by rw [hWA];exact (Blk.new wr 3 (Qcf [x])).rds rfl
     clear hWA;have hoA:=hoF.below hbA;have hoB:=hoT.below hbA;have hOA:=hOwr.below hbA hOwr.lt;have hb4A:Below w4.heap.size w4 WA:=hbwr.trans (hbA.mono (by omega));have hszA:w4.heap.size+1≤WA.heap.size:=Yx hzwr hbA.size;refine Zk 9 (fun K hK=>?_);with_reducible refine Qax (some 42) rfl rfl (.tmp 37) (.tmp 41) 61 rfl 3 _ 1 8 Qbo underlying61 rfl (by omega) rfl rfl hoA hrA (Qao _) (by omega) (by omega) (by omega) ?_
     intro F2 cF2 w' hown' hg hat;have hO':=hOA.grown hg (hoA.ne (by omega));have hoB':=hoB.far hg hdj.far;have hDJ:=hdj.next hoB hat;have hb4':Below w4.heap.size w4 w':=Zo hb4A hg (hoA.mono (by omega)) (by omega);have hz':=hg.size;clear hOA hoA hoB hrA hg hat hbA hb4A;refine hK.out _ _ hb4' (fun _=>?_);clear hK K;simp only [Act.put,Yi,Yj,Yk];refine tzb 10 43 ?_;obtain ⟨o0,o1,o2,o3,o4,o5⟩:=hO'.six;have of:=hO'.frozen 1;refine Zk 12 (fun K hK=>?_);go_simp;refine hK.out _ _ (hb4'.setCell (by simp) _) (fun _=>?_);clear hK K;refine Zd ?_;obtain ⟨W6,hwW6⟩:=Zx (w'.setCell ⟨w4.heap.size,1,none⟩ (.slice F2 (j+1) cF2));rw [←hwW6];have hOW6:Blk W6 w4.heap.size 208 #[.slice Q3 L cq3,.slice F2 (j+1) cF2,.slice T j cT,.slice G4 L L,.slice none 0 0,.int .i64 0]:=by rw [hwW6];exact hO'.set_ 1 _
     have hoAW6:Own W6 (w4.heap.size+1) 3 1 F2 (j+1) cF2 (Qag ((N.ar.map (·.1)).take (j+1))):=by rw [hwW6,HNF.out];exact hown'.far (Qad _ _ _ _) (.inr (hown'.ne (by omega)))
     have hoBW6:=hoB'.far (Qad w' w4.heap.size 1 (.slice F2 (j+1) cF2)) (.inr (hoB'.ne (by omega)));rw [←hwW6] at hoBW6;have hbW6:Below w4.heap.size w4 W6:=by rw [hwW6];exact hb4'.setCell (by simp) _
     have hzW6:w4.heap.size+1≤W6.heap.size:=by rw [hwW6];simp [World.setCell];omega
     clear hwW6 hO' hoB' hown' hb4' o0 o1 o2 o3 o4 o5 of hOwr hoF hoT hbwr
     go_wp2_with fail
     refine wp_region_held_drew (S:=fun V=>Below w4.heap.size w4 V) (by kernel_rfl) hbW6.drew (fun _=>?_);refine tzd 0 45 ?_;refine tzb 5 50 ?_;refine wpAnyH_ready (rs:=[4,7]) (by kernel_rfl) (by simp) ?_;refine AllReadyH.cons (o:=_) rfl (fun K hK=>?_) (AllReadyH.cons (o:=_) rfl (fun K hK=>?_) AllReadyH.nil)
     focus
      obtain ⟨o0,o1,o2,o3,o4,o5⟩:=hOW6.six;go_simp;refine hK.out _ _ hbW6.drew (fun _=>?_);clear hK K o0 o1 o2 o3 o4 o5;refine Zk 7 (fun K hK=>?_);go_simp;with_reducible refine (HTO.out _ hbW6.drew).mono ?_
      rintro e w' ⟨rfl,rfl⟩
      go_wp2_with fail
      refine hK.out _ _ hbW6.drew (fun _=>?_);clear hK K;refine Zk 8 (fun K hK=>?_);go_simp;refine hK.out _ _ ((hbW6.alloc (by omega) _).drew) (fun _=>?_);clear hK K
     rotate_left
     focus
      go_simp;with_reducible refine (HTO.out _ hbW6.drew).mono ?_
      rintro e w' ⟨rfl,rfl⟩
      go_wp2_with fail
      refine hK.out _ _ hbW6.drew (fun _=>?_);clear hK K;refine wpAnyH_ready (rs:=[4,8]) (by kernel_rfl) (by simp) ?_;refine AllReadyH.cons (o:=_) rfl (fun K hK=>?_) (AllReadyH.cons (o:=_) rfl (fun K hK=>?_) AllReadyH.nil)
      focus
       obtain ⟨o0,o1,o2,o3,o4,o5⟩:=hOW6.six;go_simp;refine hK.out _ _ hbW6.drew (fun _=>?_);clear hK K o0 o1 o2 o3 o4 o5;refine Zk 8 (fun K hK=>?_);go_simp;refine hK.out _ _ ((hbW6.alloc (by omega) _).drew) (fun _=>?_);clear hK K
      rotate_left
      focus
       go_simp;refine hK.out _ _ ((hbW6.alloc (by omega) _).drew) (fun _=>?_);clear hK K;have o1:=fun ob=>(hOW6.alloc ob).six.2.1
       have o2:=fun ob=>(hOW6.alloc ob).six.2.2.1
       refine Zk 4 (fun K hK=>?_);go_simp;refine hK.out _ _ ((hbW6.alloc (by omega) _).drew) (fun _=>?_);clear hK K o1 o2
     all_goals
      obtain ⟨WA,hWA⟩:=Zx ((W6.alloc (.cells #[.int .i64 y] 3)).drew);rw [←hWA];have hbA:Below W6.heap.size W6 WA:=by rw [hWA];exact Qah
      have hrA:Rds WA 1 (some ⟨W6.heap.size,0,none⟩) 1 (Qag [y]):=by rw [hWA];exact (Blk.new W6 3 (Qcf [y])).rds rfl
      clear hWA;have hoA:=hoBW6.below hbA;have hoB:=hoAW6.below hbA;have hOA:=hOW6.below hbA hOW6.lt;have hb4A:Below w4.heap.size w4 WA:=hbW6.trans (hbA.mono (by omega));have hszA:w4.heap.size+1≤WA.heap.size:=Yx hzW6 hbA.size;refine Zk 9 (fun K hK=>?_);with_reducible refine Qax (some 54) rfl rfl (.tmp 49) (.tmp 53) 61 rfl 3 _ 1 8 Qbo underlying61 rfl (by omega) rfl rfl hoA hrA (Qao _) (by omega) (by omega) (by omega) ?_
      intro T2 cT2 w' hown' hg hat;have hO':=hOA.grown hg (hoA.ne (by omega));have hoB':=hoB.far hg hDJ.symm.far;have hDJ2:=hDJ.symm.next hoB hat;have hb4':Below w4.heap.size w4 w':=Zo hb4A hg (hoA.mono (by omega)) (by omega);have hz':=hg.size;clear hOA hoA hoB hrA hg hat hbA hb4A;refine hK.out _ _ hb4' (fun _=>?_);clear hK K;simp only [Act.put,Yi,Yj,Yk];refine tzb 10 55 ?_;obtain ⟨o0,o1,o2,o3,o4,o5⟩:=hO'.six;have of:=hO'.frozen 2;refine Zk 12 (fun K hK=>?_);go_simp;refine hK.out _ _ (hb4'.setCell (by simp) _) (fun _=>?_);clear hK K;refine Zd ?_;obtain ⟨W7,hwW7⟩:=Zx (w'.setCell ⟨w4.heap.size,2,none⟩ (.slice T2 (j+1) cT2));rw [←hwW7];have hOW7:Blk W7 w4.heap.size 208 #[.slice Q3 L cq3,.slice F2 (j+1) cF2,.slice T2 (j+1) cT2,.slice G4 L L,.slice none 0 0,.int .i64 0]:=by rw [hwW7];exact hO'.set_ 2 _
      have hoAW7:Own W7 (w4.heap.size+1) 3 1 T2 (j+1) cT2 (Qag ((N.ar.map (·.2.1)).take (j+1))):=by rw [hwW7,HNT.out];exact hown'.far (Qad _ _ _ _) (.inr (hown'.ne (by omega)))
      have hoBW7:=hoB'.far (Qad w' w4.heap.size 2 (.slice T2 (j+1) cT2)) (.inr (hoB'.ne (by omega)));rw [←hwW7] at hoBW7;have hbW7:Below w4.heap.size w4 W7:=by rw [hwW7];exact hb4'.setCell (by simp) _
      have hzW7:w4.heap.size+1≤W7.heap.size:=by rw [hwW7];simp [World.setCell];omega
      clear hwW7 hO' hoB' hown' hb4' o0 o1 o2 o3 o4 o5 of hOW6 hoBW6 hoAW6 hbW6
      go_wp2_with fail
      go_roundw
      case rel=>exact ⟨hzW7,hbW7,j+1,F2,cF2,T2,cT2,by omega,by go_num,hOW7,hoBW7,hoAW7,hDJ2.symm⟩
      case measure=>simp [intOf];omega
  · (obtain rfl:M=j:=by omega);(rw [Ye (by rw [List.length_map,HML.out];exact Zn _)] at hoF hoT;have HOF:=Zh hoF;have HOT:=Zh hoT;obtain ⟨o0,o1,o2,o3,o4,o5⟩:=hOwr.six;obtain ⟨wo,hwo⟩:=Zx wr;subst hwo;have hsA0:Qbw ((Qae N.ar ls).take 0)=0:=by simp [Qbw]);have HS0:=Zh (show Blk wo w4.heap.size 208 #[.slice Q3 L cq3,.slice F M cF,.slice T M cT,.slice G4 L L,.slice none 0 0,.int .i64 ((Qbw ((Qae N.ar ls).take 0):Nat):Int)] by rw [hsA0];exact hOwr);clear hoF hoT hdj hsA0;(go_wp2_with fail);clear o0 o1 o2 o3 o4 o5;(go_loopw [63] (fun q W=>wo.heap.size≤W.heap.size∧Below w4.heap.size w4 W∧Qaz (fun b=>b≠w4.heap.size∧b<wo.heap.size) wo W∧∃ (i:Nat) (S:Option Addr) (cS:Nat) (xs:List Value),i≤L∧q=.int .i64 i∧Blk W w4.heap.size 208 #[.slice Q3 L cq3,.slice F M cF,.slice T M cT,.slice G4 L L,.slice S i cS,.int .i64 ((Qbw ((Qae N.ar ls).take i):Nat):Int)]∧RwL W wo.heap.size S i cS xs ((Qvs (Qae N.ar ls)).take i)) (fun q _=>L-(intOf q).toNat));case atStart=>exact ⟨Zn _,hbwr,Qaz.refl _ _,0,none,0,[],Nat.zero_le _,rfl,HS0.out,by simpa using RwL.nil _ _⟩
    case round =>
     clear hbwr hOwr HS0;obtain ⟨hzr,hbr,hkr,i,S,cS,xs,hi,rfl,hO,hRw⟩:=hrel;by_cases hlt2:i<L
     · obtain ⟨row,gb,go_,Ag,ng,cg,hrow,rfl,hcg,hrc,hng,hcg2⟩:=(HG4.out.le (Qau _ _)).at_ hlt2
       obtain ⟨l,hl,hrowl⟩:∃ l,ls[i]?=some l∧row=Qaf N.ar l:=by
        unfold Qae at hrow;rw [Yt] at hrow
        cases e:ls[i]? with
        | none=>rw [e] at hrow;cases hrow
        | some l=>rw [e] at hrow;cases hrow;exact ⟨l,rfl,rfl⟩
       have hlo:=HP.out.lvl l (Zm hl);have hnn:ng≤4096:=by{rw [←hrc.1,hrowl,Qaq];have:=Qcg (l:=l) (n:=(n:Int)) (fun x hx=>hlo.hi x hx) (by omega);omega};have hcg':=Zc hbr (Zn _) hcg;have HSB:=Zh (show ∀ k,Qea (row.take k)≤4096*268435456 from fun k=>by rw [hrowl];exact Qzi (by rw [HML.out];exact HM.out) hlo hn4)
       have HCB:=Zh (show ∀ (c:Nat) (x:Qan),row[c]?=some x→x.1.length≤16384∧x.2.length≤16384 from fun c x hx=>by
        have h0:=HM.out;rw [hrowl] at hx;have:=Qbl hx;rw [HML.out] at this;omega)
       (have hsA:=sumA_le (ar:=N.ar) (ls:=ls) (i:=i) (by rw [HML.out];exact HM.out) HP.out hn4;have HSN:=Zh (Qdh hrow);have HSG:=Zh (Qpz hrow);have HRC:=Zh hrc;have HRL:=Zh hrc.1;generalize hss:Qbw ((Qae N.ar ls).take i)=sA at *;clear hss;have hmk:=Qdg ng (by omega);have i1:0≤(i:Int):=by omega);(have i2:(i:Int)<L:=by omega);obtain ⟨wi,hwi⟩:=Zx wr;subst hwi;clear hrow hcg hrc hng hlo hl hrowl;(go_wp2_with fail);(refine Qaj ?_;intro w7 hw7);(have hb7:Below wi.heap.size wi w7:=by rw [hw7];exact Qah);(have hB7:Blk w7 wi.heap.size 3 (Qcf ((Qif sA row).take 0 ++List.replicate (ng-0) 0)):=by rw [hw7,List.take_zero,List.nil_append,Nat.sub_zero,←Qcd];exact Blk.new _ _ _);(have hz7:wi.heap.size+1=w7.heap.size:=by rw [hw7];simp);clear hw7 hmk;have hO7:=hO.below hb7 hO.lt;have hz4i:=hO.lt;(go_loopw [72] (fun q W=>wi.heap.size+1≤W.heap.size∧Below w4.heap.size w4 W∧Qaz (fun b=>b≠w4.heap.size∧b<wi.heap.size) wi W∧∃ k:Nat,k≤ng∧q=.int .i64 k∧Blk W w4.heap.size 208 #[.slice Q3 L cq3,.slice F M cF,.slice T M cT,.slice (some ⟨gb,go_,none⟩) L L,.slice S i cS,.int .i64 ((sA+Qea (row.take k):Nat):Int)]∧Blk W wi.heap.size 3 (Qcf ((Qif sA row).take k ++List.replicate (ng-k) 0))) (fun q _=>ng-(intOf q).toNat));case atStart=>exact ⟨by omega,hbr.trans (hb7.mono (by omega)),Qaz.below hb7,0,Nat.zero_le _,rfl,by simpa [Qea] using hO7,hB7⟩
       case round =>
        clear hB7 hO7 hz7 hb7;obtain ⟨hzk,hbk,hkk,k,hk,rfl,hOk,hBk⟩:=hrel;by_cases hlt3:k<ng
        · obtain ⟨x,gb',go',A1,n1,c1,A2,n2,c2,hx,eg,cc1,hr1,cc2,hr2,_⟩:=HRC.out.at_ hlt3;(subst eg;have hb1:=HCB.out k x hx;have hn1:n1≤16384:=by rw [←hr1.1];exact hb1.1);have hn2:n2≤16384:=by rw [←hr2.1];exact hb1.2
          have HSZ:=Zh (show Qea (row.take (k+1))=Qea (row.take k)+n1*n2 by
           rw [Qdi hx];unfold szG;rw [hr1.1,hr2.1])
          (have hP:n1*n2≤268435456:=Yx (Nat.mul_le_mul hn1 hn2) (by omega);have hsk:=HSB.out k;have cc1':=Zc hbk (Zn _) cc1;have cc2':=Zc hbk (Zn _) cc2;have HSTN:=Zh (Qvt (s:=sA) (row:=row) (j:=k) (by rw [HRL.out];exact hlt3));rw [HRL.out] at HSTN;obtain ⟨v0,hv0⟩:∃ v,((Qif sA row).take k ++List.replicate (ng-k) (0:Int))[k]?=some v:=⟨_,Zg (by rw [Yp,Yw,Qfq,HRL.out,List.length_replicate];omega)⟩;have cb:=hBk.cellI hv0;have cbf:=hBk.frozen k;have e1:(n1:Int)*n2=((n1*n2:Nat):Int):=by simp);(generalize hPP:n1*n2=P at *;generalize hKK:Qea (row.take k)=K at *;clear hPP hKK;have HSTN2:=HSTN;clear HSTN;obtain ⟨Z,hZ⟩:=Zx (sA+K);rw [←hZ] at HSTN2 hOk;have hZb:Z≤7*(4096*268435456):=by omega);(have HZ:=Zh hZ;clear hZ;have e2:IntKind.i64.wrap (P:Int)=(P:Int):=IntWalk.i64_in _ (by omega);have e3:IntKind.i64.wrap ((Z:Int)+P)=(Z:Int)+P:=IntWalk.i64_in _ (by omega);have HB2:=Zh (hBk.setI HSTN2.out);have j1:0≤(k:Int):=by omega);(have j2:(k:Int)<ng:=by omega);(obtain ⟨W8,hW8⟩:=Zx ((wr.setCell ⟨wi.heap.size,k,none⟩ (.int .i64 (Z:Int))).alloc (.cells #[.slice A1 n1 c1,.slice A2 n2 c2] 135));have hX8:Blk W8 wr.heap.size 135 #[.slice A1 n1 c1,.slice A2 n2 c2]:=by rw [hW8];exact Blk.new' _ _ _ (by simp [World.setCell]));(have hO8:Blk W8 w4.heap.size 208 #[.slice Q3 L cq3,.slice F M cF,.slice T M cT,.slice (some ⟨gb,go_,none⟩) L L,.slice S i cS,.int .i64 (Z:Int)]:=by rw [hW8];exact (hOk.far_ (by omega) _).alloc _);(have hB8:Blk W8 wi.heap.size 3 (Qcf ((Qif sA row).take (k+1) ++List.replicate (ng-(k+1)) 0)):=by rw [hW8];exact HB2.out.alloc _);(have hb8:Below w4.heap.size w4 W8:=by rw [hW8];exact (hbk.setCell (by simp only;omega) _).alloc (by simp [World.setCell];omega) _);have hk8:Qaz (fun b=>b≠w4.heap.size∧b<wi.heap.size) wi W8:=by{(have hset:Qaz (fun b=>b≠w4.heap.size∧b<wi.heap.size) wr (wr.setCell ⟨wi.heap.size,k,none⟩ (.int .i64 (Z:Int))):=Qaz.set _ _ _ _ (fun hG=>by omega);have hall:Qaz (fun b=>b≠w4.heap.size∧b<wi.heap.size) (wr.setCell ⟨wi.heap.size,k,none⟩ (.int .i64 (Z:Int))) W8:=by rw [hW8];exact Qaz.below ((Zr _ _).alloc (Zn _) _));exact (hkk.trans hset (by omega)).trans hall (by simp [World.setCell];omega)};(have hz8:wi.heap.size+1≤W8.heap.size:=by rw [hW8];simp [World.setCell];omega);have HW8:=Zh hW8;have HX8:=Zh hX8;have o5a:=hOk.six.2.2.2.2.2;have zb:=hBk.lt;have zo:=hOk.lt;clear hx hr1 hr2 cc1 cc2 hW8 hOk hBk hv0 hbk hkk HB2 hX8;(go_wp2_with fail);rw [←HW8.out];clear o5a zb zo;have hX8:=HX8.out;have hlt8:=hX8.lt;have HSX:=Zh (show ∀ V,Blk V wr.heap.size 135 #[.slice A1 n1 c1,.slice A2 n2 c2]→V.cell? ⟨wr.heap.size,0,none⟩=some (.slice A1 n1 c1)∧V.cell? ⟨wr.heap.size,1,none⟩=some (.slice A2 n2 c2) from fun V hV=>⟨hV.two.1,hV.two.2.1⟩);refine wp_region_held_drew (S:=fun V=>Blk V wr.heap.size 135 #[.slice A1 n1 c1,.slice A2 n2 c2]) (by kernel_rfl) hX8.drew (fun _=>?_);refine tzb 0 84 ?_;refine tz 2 86 ?_;refine tzd 4 88 ?_;refine tzb 8 92 ?_;refine tz 10 94 ?_;obtain ⟨o0,o1,o2,o3,o4,o5⟩:=hO8.six;refine Zk 3 (fun K hK=>?_);go_simp;refine hK.out _ _ hX8.drew (fun _=>?_);clear hK;refine tzb 11 95 ?_;refine tz 13 97 ?_;have of:=hO8.frozen 5;refine Zk 14 (fun K hK=>?_);go_simp;refine hK.out _ _ (hX8.far_ (by omega) _) (fun _=>?_);clear hK;refine Zd ?_;have HO9:=Zh (show Blk ((W8.setCell ⟨w4.heap.size,5,none⟩ (.int .i64 ((Z:Int)+P))).drew) w4.heap.size 208 #[.slice Q3 L cq3,.slice F M cF,.slice T M cT,.slice (some ⟨gb,go_,none⟩) L L,.slice S i cS,.int .i64 ((Z:Int)+P)] from hO8.set_ 5 _);have HB9:=Zh (hB8.far_ (b:=w4.heap.size) (o:=5) (by omega) (.int .i64 ((Z:Int)+P)));have HE9:=Zh (show (((sA+Qea (row.take (k+1)):Nat)):Int)=(Z:Int)+(P:Int) by have:=HSZ.out;have:=HZ.out;omega);have HK9:=Zh (hk8.trans (Qaz.set W8 w4.heap.size 5 (.int .i64 ((Z:Int)+P)) (fun hG=>hG.1 rfl)) (by omega));have HL9:=Zh (hb8.setCell (p:=⟨w4.heap.size,5,none⟩) (by simp) (.int .i64 ((Z:Int)+P)));clear hO8 hB8 hk8 hb8 o0 o1 o2 o3 o4 o5 of hX8;(go_wp2_with fail);go_roundw;(case rel=>exact ⟨by simp [World.setCell];omega,HL9.out.drew,HK9.out,k+1,by omega,by go_num,by rw [HE9.out];exact HO9.out,HB9.out⟩);case measure=>simp [intOf];omega
        · (obtain rfl:ng=k:=by omega);(rw [Yy,List.replicate_zero,List.append_nil,Ye (by rw [Qfq,HRL.out];exact Zn _)] at hBk;rw [Ye (by rw [HRL.out];exact Zn _)] at hOk;have hRk:=hRw.keep (by omega) (fun b h1 h2=>hkk b ⟨by omega,h2⟩ h2);have hSl:∀ b,Qab S=some b→b<wi.heap.size:=fun b hb=>(hRw.1.lt b hb).2);(obtain ⟨W1,hW1⟩:=Zx (wr.alloc (.cells #[.slice (some ⟨wi.heap.size,0,none⟩) ng ng] 61));have hbA:Below wr.heap.size wr W1:=by rw [hW1];exact Qah);(have hRA:=hRk.below hbA;have hOA:=hOk.below hbA hOk.lt;have hrA:Rds W1 1 (some ⟨wr.heap.size,0,none⟩) 1 [.slice (some ⟨wi.heap.size,0,none⟩) ng ng]:=by rw [hW1];exact (Blk.new wr 61 #[.slice (some ⟨wi.heap.size,0,none⟩) ng ng]).rds rfl);(have hrI:RdI W1 (some ⟨wi.heap.size,0,none⟩) ng (Qif sA row):=(hBk.below hbA hBk.lt).rdI (by rw [Qfq];exact HRL.out);have hLt:=hBk.lt;have hbA4:Below w4.heap.size w4 W1:=hbk.trans (hbA.mono (by omega));have hszA:wo.heap.size≤W1.heap.size:=by have:=hbA.size;omega);have hzA:=hbA.size;have hKA:Qaz (fun b=>b≠w4.heap.size∧b<wo.heap.size) wo W1:=(hkr.trans (hkk.mono (fun b hb=>⟨hb.1,by omega⟩)) (by omega)).trans ((Qaz.below hbA).mono (fun b hb=>hb)) (by omega);have hoS:=hRA.1;obtain ⟨o0,o1,o2,o3,o4,o5⟩:=hOk.six;have zo:=hOk.lt;have HSNN:=Zh (show ((Qbw ((Qae N.ar ls).take (i+1)):Nat):Int)=((sA+Qea row:Nat):Int) by rw [HSN.out]);have HW1:=Zh hW1;clear hBk hRk hW1 hRw hO hkk hkr hbk hbr;(go_wp2_with (at_builtin;rw [←HW1.out];with_reducible refine Qal rfl (.tmp 103) (.tmp 105) 27 rfl 61 _ 1 24 Qhf underlying27 rfl (by omega) rfl rfl hoS hrA (Qch _ _ _) (by omega) (by omega) (by omega) ?_));intro A' c' w' hown' hg hat;have hO':=hOA.grown hg (hoS.ne (by omega));have hb4':Below w4.heap.size w4 w':=Zo hbA4 hg (hoS.mono (by omega)) (by omega);have hz':=hg.size
          have HR':=Zh ((hRA.push hown' hg hat hrI (fun q hq=>by
           have e:=Qhc hq;subst e;exact ⟨by omega,by omega,fun e=>by have:=hSl _ e;omega⟩) (Zn _) (by omega)).far (Qad w' w4.heap.size 4 (.slice A' (i+1) c')) (by omega))
          have HK':=Zh ((hKA.trans (Qaz.grown hg (fun b hb e=>by have:=(hoS.lt b e).1;omega)) (by omega)).trans (Qaz.set w' w4.heap.size 4 (.slice A' (i+1) c') (fun hG=>hG.1 rfl)) (by omega));have HO':=Zh (show Blk (w'.setCell ⟨w4.heap.size,4,none⟩ (.slice A' (i+1) c')) w4.heap.size 208 #[.slice Q3 L cq3,.slice F M cF,.slice T M cT,.slice (some ⟨gb,go_,none⟩) L L,.slice A' (i+1) c',.int .i64 ((Qbw ((Qae N.ar ls).take (i+1)):Nat):Int)] from by rw [HSNN.out];exact hO'.set_ 4 _);have HL':=Zh (hb4'.setCell (p:=⟨w4.heap.size,4,none⟩) (by simp) (.slice A' (i+1) c'));obtain ⟨_,_,_,_,o4',_⟩:=hO'.six;have of':=hO'.frozen 4;clear hRA hOA hrA hrI hbA4 hKA hoS o0 o1 o2 o3 o4 o5 hown' hg hat hO' hb4' hbA;(go_wp2_with fail);go_roundw;(case rel=>exact ⟨by simp [World.setCell];omega,HL'.out,HK'.out,i+1,A',c',_,by omega,by go_num,HO'.out,by rw [Yf (Zs HSG.out).1,(Zs HSG.out).2];exact HR'.out⟩);case measure=>simp [intOf];omega
     · (obtain rfl:L=i:=by omega);(have hgl:(Qae N.ar ls).length=L:=by simp [Qae];exact HT.out.1);rw [Ye (by rw [Qze,hgl];exact Zn _)] at hRw;rw [Ye (by rw [hgl];exact Zn _)] at hO;have hz4:=hbw4.size;have hzo:=hO.lt
       have HOV:=Zh (show Qgh (msk wr (fun b=>w.heap.size≤b∧b<wr.heap.size)) w4.heap.size N.ar ls from by
        have hk4:Le (msk w4 (fun b=>w.heap.size≤b∧b<w4.heap.size)) (msk wr (fun b=>w.heap.size≤b∧b<wr.heap.size)) :=
         Le.trans (Qaz.msk (W':=wr) (fun b hb _=>hbr.block b hb.2)) (Qbe (fun b hb=>⟨hb.1,by omega⟩))
        have own:∀ (A:Option Addr) (c:Nat) (l:List Int),Own wo (w4.heap.size+1) 3 1 A M c (Qag l)→RdI (msk wr (fun b=>w.heap.size≤b∧b<wr.heap.size)) A M l:=fun A c l ho =>
         (ho.rds.rdI.keepB (fun b hb=>hkr b ⟨by have:=(ho.lt b hb).1;omega,(ho.lt b hb).2⟩ (ho.lt b hb).2)).msk (fun b hb=>⟨by have:=(ho.lt b hb).1;omega,by have:=(ho.lt b hb).2;omega⟩)
        obtain ⟨o0,o1,o2,o3,o4,o5⟩:=hO.six;have hc:∀ {k:Nat} {v:Value},wr.cell? ⟨w4.heap.size,k,none⟩=some v→(msk wr (fun b=>w.heap.size≤b∧b<wr.heap.size)).cell? ⟨w4.heap.size,k,none⟩=some v:=fun h=>Qbb.2 ⟨⟨by omega,by omega⟩,h⟩
        exact ⟨_,_,_,_,_,_,_,_,_,_,_,_,hc o0,hc o1,hc o2,hc o3,hc o4,hc o5,HQ4.out.le hk4,own _ _ _ HOF.out,own _ _ _ HOT.out,HG4.out.le hk4,hRw.rdM (fun b h1 h2=>⟨by omega,h2⟩),HCQ.out⟩)
       have HBF:=Zh (hbw4.trans (hbr.mono (by omega)));clear hO hRw hbr hkr;(go_wp2_with fail);(go_ret2);exact ⟨_,rfl,HOV.out,HBF.out⟩
end Go.Proofs.YtdheeddnkdhfeaaGreatDoor
