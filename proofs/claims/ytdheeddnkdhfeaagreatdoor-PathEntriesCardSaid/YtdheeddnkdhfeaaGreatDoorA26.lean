/- Parts of the proof: RoO, AsY. -/
import Derived.Test.YtdheeddnkdhfeaaGreatDoorA25
namespace Go.Proofs.YtdheeddnkdhfeaaGreatDoor
open Go.RowKit Go.Proofs.Tryz
attribute [local go_sem ↓] Go.wp_at_zero Go.wp_at_succ
abbrev Ent:=Nat×Nat×Nat×Nat
def Qhp (e:Ent):List Value:=[.int .i64 ((e.1:Int)+1),.int .i64 (e.2.1:Int),.int .i64 (e.2.2.1:Int),.int .i64 (e.2.2.2:Int)]
def Qfc (l:List Ent):List Value:=l.flatMap Qhp
theorem Qtl (l m:List Ent):Qfc (l ++m)=Qfc l ++Qfc m:=by simp [Qfc]
theorem Qti (e:Ent):Qfc [e]=Qhp e:=by simp [Qfc]
theorem Qov (e:Ent):∀ u∈Qhp e,u.oneCell'=true:=by
 intro u hu;simp only [Qhp,List.mem_cons,List.not_mem_nil,or_false] at hu
 rcases hu with rfl|rfl|rfl|rfl <;> rfl
theorem Qok:∀ (l:List Ent)(k:Nat)(e:Ent),l[k]?=some e→∀ q,q<4→(Qfc l)[k*4+q]?=(Qhp e)[q]?
 | [],k,e,h,_,_=>by simp at h
 | x::t,0,e,h,q,hq=>by
  simp only [Yn,Option.some.injEq] at h;subst h
  show (Qhp x ++Qfc t)[0*4+q]?=_
  rw [Nat.zero_mul,Yz,Yc (by simpa [Qhp] using hq)]
 | x::t,k+1,e,h,q,hq=>by
  have:=Qok t k e (by simpa using h) q hq
  show (Qhp x ++Qfc t)[(k+1)*4+q]?=_
  rw [Yb (by simp [Qhp];omega),←this]
  congr 1
  simp [Qhp];omega
def EntP (N:Qam) (ls:List (List Int)) (EL:List Ent):Prop:=∀ (k:Nat) (e:Ent),EL[k]?=some e→∃ l x s t,Qfg N ls k e.1 l e.2.1 x e.2.2.1 e.2.2.2 s t
theorem EntP.push {N:Qam} {ls:List (List Int)} {EL:List Ent} {e:Ent} (h:EntP N ls EL) (he:∃ l x s t,Qfg N ls EL.length e.1 l e.2.1 x e.2.2.1 e.2.2.2 s t):EntP N ls (EL ++[e]):=fun k f hk=>by
 rcases Nat.lt_trichotomy k EL.length with e1|e1|e1
 · rw [Yc e1] at hk;exact h k f hk
 · subst e1;rw [Yb (Zn _),Yy] at hk;cases hk;exact he
 · rw [Yd (by simp;omega)] at hk;cases hk
structure OvN (w1 V1:World) (F:Nat→Prop) (b5:Nat) (x0 x1 x2 x3 x4:Value) (N:Qam) (ls:List (List Int)) (V:World) (A:Option Addr) (cp:Nat) (EL:List Ent):Prop where
 kept:Qbc F V1 V
 size:V1.heap.size≤V.heap.size
 bel:Below w1.heap.size w1 V
 box:Blk V b5 57 #[x0,x1,x2,x3,x4,.slice A EL.length cp]
 own:Own V V1.heap.size 76 4 A EL.length cp (Qfc EL)
 row:EntP N ls EL
section
variable {w1 V1 V V':World} {F:Nat→Prop} {b5:Nat} {x0 x1 x2 x3 x4:Value} {N:Qam} {ls:List (List Int)} {A:Option Addr} {cp:Nat} {EL:List Ent}
theorem OvN.below (h:OvN w1 V1 F b5 x0 x1 x2 x3 x4 N ls V A cp EL)(hb:Below V.heap.size V V'):OvN w1 V1 F b5 x0 x1 x2 x3 x4 N ls V' A cp EL :=
 ⟨h.kept.trans (Qbc.below hb) h.size,Yx h.size hb.size,Zb h.bel hb,h.box.below hb h.box.lt,h.own.below hb,h.row⟩
theorem OvN.le (h:OvN w1 V1 F b5 x0 x1 x2 x3 x4 N ls V A cp EL):Le (msk V1 F) V:=h.kept.msk.trans (Qat _ _)
theorem OvN.push {A':Option Addr}{cp':Nat}{e:Ent}(h:OvN w1 V1 F b5 x0 x1 x2 x3 x4 N ls V A cp EL)(hF:∀ b,F b→b<V1.heap.size∧b≠b5)(hb:b5<V1.heap.size)(hw:w1.heap.size≤b5)
 (ho:Own V' V1.heap.size 76 4 A' (EL.length+1) cp' (Qfc EL ++Qhp e)) (hg:V.grownBy V' (Qab A)) (he:∃ l x s t,Qfg N ls EL.length e.1 l e.2.1 x e.2.2.1 e.2.2.2 s t) :
 OvN w1 V1 F b5 x0 x1 x2 x3 x4 N ls (V'.setCell ⟨b5,5,none⟩ (.slice A' (EL.length+1) cp')) A' cp' (EL ++[e]):=by
 have hA:∀ g,Qab A=some g→V1.heap.size≤g:=fun g e=>(h.own.lt g e).1
 have hz:V1.heap.size≤V'.heap.size:=Yx h.size hg.size;have hx:=h.box.grown hg (fun e=>by have:=hA _ e;omega);refine ⟨?_,by simpa [World.setCell] using hz,?_,?_,?_,h.row.push he⟩
 · refine (h.kept.trans (Qbc.grown hg (fun b hb' e=>by have:=hA _ e;have:=(hF b hb').1;omega)) h.size).trans (Qbc.set V' b5 5 _ (fun e=>(hF b5 e).2 rfl)) hz
 · exact Zi (h.bel.grown hg h.bel.size (fun g e=>by have:=hA _ e;have:=h.bel.size;omega)) hw
 · rw [Yp]
   have:=hx.set_ 5 (.slice A' (EL.length+1) cp')
   simpa using this
 · rw [Yp,Qtl,Qti]
   exact ho.far (Qad _ _ _ _) (.inr (fun e=>by have:=(ho.lt b5 e).1;omega))
end
theorem Qkk {G:Nat→Prop}{W:World}{g:Nat}(hg:¬G g)(v0 v1 v2 v3 v4 v5:Value):Qbc G W ((((((W.setCell ⟨g,0,none⟩ v0).setCell ⟨g,1,none⟩ v1).setCell ⟨g,2,none⟩ v2).setCell ⟨g,3,none⟩ v3).setCell ⟨g,4,none⟩ v4).setCell ⟨g,5,none⟩ v5):=fun b hb hl=>by
 have key:∀ (W':World) (o:Nat) (v:Value),b<W'.heap.size→(W'.setCell ⟨g,o,none⟩ v).heap[b]?=W'.heap[b]?∧b<(W'.setCell ⟨g,o,none⟩ v).heap.size:=fun W' o v h'=>⟨(Qad W' g o v).block b h' (fun e=>hg (by cases e;exact hb)),by simpa [World.setCell] using h'⟩
 obtain ⟨e0,h0⟩:=key W 0 v0 hl;obtain ⟨e1,h1⟩:=key _ 1 v1 h0;obtain ⟨e2,h2⟩:=key _ 2 v2 h1;obtain ⟨e3,h3⟩:=key _ 3 v3 h2;obtain ⟨e4,h4⟩:=key _ 4 v4 h3;obtain ⟨e5,h5⟩:=key _ 5 v5 h4;rw [e5,e4,e3,e2,e1,e0]
def Qwt (w:World)(xA xB xC xQ:Value)(L:Nat)(N:Qam) (ls:List (List Int)) (r:Ending) (w':World):Prop :=
 ∃ (G:Option Addr) (cg:Nat) (AE:Option Addr) (ce:Nat) (EL:List Ent),r=.returned (.agg #[xA,xB,xC,xQ,.slice G L cg,.slice AE EL.length ce])∧RdG w' G L (Qac N.ar ls)∧Rds w' 4 AE EL.length (Qfc EL)∧EL.length=Qbx (Qac N.ar ls)∧EntP N ls EL∧Below w.heap.size w w'
theorem Qvq:(Tryz.prog.info? 76).map (fun i=>(i.zero,i.size,i.bytes))=some (some (.agg #[.int .i64 0,.int .i64 0,.int .i64 0,.int .i64 0]),4,32):=by kernel_rfl
set_option maxHeartbeats 1000000 in
theorem Qnw (xA xB xC xQ xE:Value)(G:Option Addr)(L cg i c:Nat)(ar:List Tri) (ls:List (List Int)) (l:List Int) (x:Qak) (V0 w:World) (hle:Le V0 w) (h:RdG V0 G L (Qac ar ls)) (hl:ls[i]?=some l) (hx:(Qaf ar l)[c]?=some x) (hL:L≤1000000) (hc:c≤1000000) :
 Calls prog 26 #[.agg #[xA,xB,xC,xQ,.slice G L cg,xE],.int .i64 ((i:Int)+1),.int .i64 c] w fun e w'=>∃ A1 n1 c1 A2 n2 c2,e=.returned (.agg #[.slice A1 n1 c1,.slice A2 n2 c2])∧RdI V0 A1 n1 x.1∧RdI V0 A2 n2 x.2∧Below w.heap.size w w':=by
 have hiL:i<L:=by
  rw [←h.1];unfold Qac;rw [List.length_map];exact (Zs hl).1
 obtain ⟨row,b,o,A',n',c',hrow,rfl,g1,g2,g3⟩:=h.at_ hiL
 have hrow':row=Qaf ar l:=by
  unfold Qac at hrow;rw [Yt,hl] at hrow;exact (Yv hrow).symm
 subst hrow';have hcn:c<n':=by rw [←g2.1];exact (Zs hx).1
 obtain ⟨x',rb,ro,A1,n1,c1,A2,n2,c2,hx',rfl,k1,k2,k3,k4,k5⟩:=g2.at_ hcn;rw [hx] at hx'
 cases hx'
 replace g1:=hle _ _ g1
 replace k1:=hle _ _ k1
 replace k3:=hle _ _ k3
 have HK2:=Zh k2;have HK4:=Zh k4;have i1:¬((i:Int)+1<1):=by omega
 have i2:¬((i:Int)+1 > (L:Int)):=by omega
 have i3:¬((c:Int)<0):=by omega
 have i4:¬((n':Int)≤(c:Int)):=by omega
 have i5:(i:Int)+1-1=(i:Int):=by omega
 have i6:(i:Int)<(L:Int):=by omega
 have i7:(0:Int)≤(i:Int):=by omega
 have i8:(c:Int)<(n':Int):=by omega
 have i9:(0:Int)≤(c:Int):=by omega
 have wl:IntKind.i64.wrap (i:Int)=(i:Int):=IntWalk.i64_in _ (by omega);have z1:=Qaj g1;have z2:=Qaj k1;simp only at z1 z2;obtain ⟨w1,hw1⟩:∃ w1,w1=(w.alloc (.cells #[xA,xB,xC,xQ,.slice (some ⟨b,o,none⟩) L cg,xE] 57)).alloc (.cells #[.slice none 0 0,.slice none 0 0] 73):=⟨_,rfl⟩;have hb1:Below w.heap.size w w1:=by rw [hw1];exact Qah
 have g1':=Zc hb1 (Zn _) g1;have k1':=Zc hb1 (Zn _) k1;have k3':=Zc hb1 (Zn _) k3;rw [hw1] at g1' k1' k3';clear h hl hx hrow hle g1 g2 k1 k2 k3 k4 k5 hw1 hb1
 go_enter func26,ntmps26
 go_wp2_with fail
 obtain ⟨w2,hw2⟩:∃ w2,w2=(w.alloc (.cells #[xA,xB,xC,xQ,.slice (some ⟨b,o,none⟩) L cg,xE] 57)).alloc (.cells #[.slice A1 n1 c1,.slice A2 n2 c2] 73):=⟨_,rfl⟩;rw [←hw2];have hb2:Below w.heap.size w w2:=by rw [hw2];exact Qah
 have hB2:Blk w2 (w.heap.size+1) 73 #[.slice A1 n1 c1,.slice A2 n2 c2]:=by
  rw [hw2];refine Blk.new' _ _ _ ?_;simp
 clear hw2 g1' k1' k3';obtain ⟨c0,c1',f0,f1⟩:=hB2.two;refine bodyPost_ret (v:=.agg #[.slice A1 n1 c1,.slice A2 n2 c2]) (by simp [results,results26,go_sem,c0,c1']) rfl ?_;exact ⟨_,_,_,_,_,⟨_,rfl⟩,HK2.out,HK4.out,hb2⟩
set_option maxHeartbeats 4000000 in
set_option maxRecDepth 20000 in
theorem Qqp (A B C Q:Option Addr)(n m k c d e L cq:Nat)(N:Qam) (ls:List (List Int)) (w:World) (h:Qce w A B C n m k N) (hok:Qap N) (hq:RdT w Q L ls) (hP:Qaw N.vs.length ls) (hNC:Qbx (Qac N.ar ls)≤1000000000) :
 Calls prog 18 #[.agg #[.slice A n c,.slice B m d,.slice C k e],.agg #[.slice Q L cq]] w (Qwt w (.slice A n c) (.slice B m d) (.slice C k e) (.slice Q L cq) L N ls):=by
 have HGT:=Zh (fun V (hV:Below w.heap.size w V)=>Qrt A B C Q n m k c d e L cq N ls V (h.below hV) hok (hq.below hV) hP);have HP:=Zh hP;have HLL:=Zh hq.1;have l6:L≤6:=by rw [←hq.1];exact hP.l6
 have hlv:=hok.lv;have hla:=hok.la;obtain ⟨NC,hNCe⟩:∃ NC,NC=Qbx (Qac N.ar ls):=⟨_,rfl⟩;rw [←hNCe] at hNC;have HNC:=Zh hNCe;clear h hok hq hP hNCe
 go_enter func18,ntmps18
 go_wp2_with fail
 (refine Qai ?_;intro w1 hw1)
 have hb1:Below w.heap.size w w1:=by rw [hw1];exact Qah
 have hX:Blk w1 w.heap.size 26 #[.slice A n c,.slice B m d,.slice C k e]:=by
  rw [hw1];refine Blk.alloc (Blk.alloc ?_ _) _;exact Blk.new _ _ _
 have hY:Blk w1 (w.heap.size+1) 29 #[.slice Q L cq]:=by
  rw [hw1];refine Blk.alloc ?_ _;refine Blk.new' _ _ _ ?_;simp
 have hZ:Blk w1 (w.heap.size+1+1) 57 #[.slice none 0 0,.slice none 0 0,.slice none 0 0,.slice none 0 0,.slice none 0 0,.slice none 0 0]:=by
  rw [hw1];refine Blk.new' _ _ _ ?_;simp
 clear hw1
 have HSX:=Zh (show ∀ V,Below w1.heap.size w1 V→V.cell? ⟨w.heap.size,0,none⟩=some (.slice A n c)∧V.cell? ⟨w.heap.size,1,none⟩=some (.slice B m d)∧V.cell? ⟨w.heap.size,2,none⟩=some (.slice C k e)∧V.cell? ⟨w.heap.size+1,0,none⟩=some (.slice Q L cq) from
  fun V hV=>⟨by rw [(hX.below hV hX.lt).cell];rfl,by rw [(hX.below hV hX.lt).cell];rfl,by rw [(hX.below hV hX.lt).cell];rfl,by rw [(hY.below hV hY.lt).cell];rfl⟩)
 refine wp_region_held_drew (S:=fun V=>Below w1.heap.size w1 V) (by kernel_rfl) (Zr _ _).drew (fun _=>?_);refine tz 0 10 ?_;refine tz 1 11 ?_;refine tz 2 12 ?_;refine tz 3 13 ?_;refine wpAnyH_ready (rs:=[4,6]) (by kernel_rfl) (by simp) ?_;refine AllReadyH.cons (o:=_) rfl (fun K hK=>?_) (AllReadyH.cons (o:=_) rfl (fun K hK=>?_) AllReadyH.nil)
 · go_simp
   with_reducible refine (HGT.out _ (hb1.trans (Zr _ _).drew)).mono ?_
   rintro r w2 ⟨G,cg,rfl,hG,hb2⟩;go_simp;have hb2':Below w1.heap.size w1 w2:=(Zr _ _).drew.trans hb2;refine hK.out _ _ hb2' (fun _=>?_);clear hK K;refine tz 5 15 ?_;refine Zk 6 (fun K hK=>?_);go_simp;refine hK.out _ _ (Zb hb2' Qah) (fun _=>?_);clear hK K;refine Zk 7 (fun K hK=>?_);go_simp;refine hK.out _ _ (Zb hb2' Qah) (fun _=>?_);clear hK K;refine Zd ?_;obtain ⟨V1,hV1⟩:∃ V1,V1=w2.alloc (.cells #[.slice A n c,.slice B m d,.slice C k e,.slice Q L cq,.slice G L cg,.slice none 0 0] 57):=⟨_,rfl⟩;rw [←hV1];have hb2V:Below w2.heap.size w2 V1:=by rw [hV1];exact Qah
   have hBX':Blk V1 w2.heap.size 57 #[.slice A n c,.slice B m d,.slice C k e,.slice Q L cq,.slice G L cg,.slice none 0 0]:=by rw [hV1];exact Blk.new _ _ _
   have hbV:=Zb hb2' hb2V;clear hV1;obtain ⟨b5,hb5⟩:∃ b5,b5=w2.heap.size:=⟨_,rfl⟩;have hBX:Blk V1 b5 57 #[.slice A n c,.slice B m d,.slice C k e,.slice Q L cq,.slice G L cg,.slice none 0 0]:=by rw [hb5];exact hBX'
   obtain ⟨F,hFe⟩:∃ F:Nat→Prop,F=fun b=>w1.heap.size≤b∧b<w2.heap.size:=⟨_,rfl⟩
   have hG1:RdG (msk V1 F) G L (Qac N.ar ls):=hG.le ((Qbc.msk (Qbc.below hb2V)).trans (Qbk (fun b hb=>by rw [hFe];exact hb)));have hb51:b5<V1.heap.size:=hBX.lt
   have hb52:w1.heap.size≤b5:=by rw [hb5];exact hb2'.size
   have hFF:∀ b,F b→b<V1.heap.size∧b≠b5:=fun b hb=>by
    rw [hFe] at hb;have:=hb2V.size;exact ⟨by omega,by omega⟩
   have hFL:∀ b,F b→w1.heap.size≤b:=fun b hb=>by rw [hFe] at hb;exact hb.1
   rw [←hb5];clear hG hFe hb5 hBX' hb2V hb2 hb2'
   exact Kaa
 · go_simp
   have hb2:Below w1.heap.size w1 (w1.alloc (.cells #[.slice none 0 0,.slice none 0 0,.slice none 0 0,.slice none 0 0,.slice none 0 0,.slice none 0 0] 57)).drew:=((Zr _ _).alloc (Zn _) _).drew;refine hK.out _ _ hb2 (fun _=>?_);clear hK K;refine Zk 4 (fun K hK=>?_);go_simp;with_reducible refine (HGT.out _ (Zb hb1 hb2)).mono ?_
   rintro r w2 ⟨G,cg,rfl,hG,hb3⟩;go_simp;have hb2':Below w1.heap.size w1 w2:=Zb hb2 hb3;refine hK.out _ _ hb2' (fun _=>?_);clear hK K;refine tz 5 15 ?_;have hBo:Blk w2 w1.heap.size 57 #[.slice none 0 0,.slice none 0 0,.slice none 0 0,.slice none 0 0,.slice none 0 0,.slice none 0 0]:=((Blk.new w1 _ _).drew).below hb3 (Blk.new w1 57 #[.slice none 0 0,.slice none 0 0,.slice none 0 0,.slice none 0 0,.slice none 0 0,.slice none 0 0]).drew.lt;obtain ⟨b5,hb5⟩:∃ b5,b5=w1.heap.size:=⟨_,rfl⟩;have hbo:Blk w2 b5 57 #[.slice none 0 0,.slice none 0 0,.slice none 0 0,.slice none 0 0,.slice none 0 0,.slice none 0 0]:=by rw [hb5];exact hBo
   have HB5:=Zh hb5;have hz3:w1.heap.size+1≤w2.heap.size:=by have:=hBo.lt;omega
   rw [←hb5];clear hb5 hBo;have z0:w2.cell? ⟨b5,0,none⟩=some (.slice none 0 0):=Zq hbo;have z1:w2.cell? ⟨b5,1,none⟩=some (.slice none 0 0):=Zq hbo;have z2:w2.cell? ⟨b5,2,none⟩=some (.slice none 0 0):=Zq hbo;have z3:w2.cell? ⟨b5,3,none⟩=some (.slice none 0 0):=Zq hbo;have z4:w2.cell? ⟨b5,4,none⟩=some (.slice none 0 0):=Zq hbo;have z5:w2.cell? ⟨b5,5,none⟩=some (.slice none 0 0):=Zq hbo;have f0:=hbo.frozen 0;have f1:=hbo.frozen 1;have f2:=hbo.frozen 2;have f3:=hbo.frozen 3;have f4:=hbo.frozen 4;have f5:=hbo.frozen 5;have zl:=hbo.lt;refine Zk 7 (fun K hK=>?_);go_simp;obtain ⟨V1,hV1⟩:∃ V1,V1=(((((w2.setCell ⟨b5,0,none⟩ (.slice A n c)).setCell ⟨b5,1,none⟩ (.slice B m d)).setCell ⟨b5,2,none⟩ (.slice C k e)).setCell ⟨b5,3,none⟩ (.slice Q L cq)).setCell ⟨b5,4,none⟩ (.slice G L cg)).setCell ⟨b5,5,none⟩ (.slice none 0 0):=⟨_,rfl⟩;rw [←hV1]
   have hBX:Blk V1 b5 57 #[.slice A n c,.slice B m d,.slice C k e,.slice Q L cq,.slice G L cg,.slice none 0 0]:=by
    have:=(((((hbo.set_ 0 (.slice A n c)).set_ 1 (.slice B m d)).set_ 2 (.slice C k e)).set_ 3 (.slice Q L cq)).set_ 4 (.slice G L cg)).set_ 5 (.slice none 0 0);rw [←hV1] at this
    simpa using this
   have hbV:Below w1.heap.size w1 V1:=by
    rw [hV1];have hle:w1.heap.size≤b5:=by rw [HB5.out];exact Zn _
    exact Zi (Zi (Zi (Zi (Zi (Zi hb2' hle) hle) hle) hle) hle) hle
   have hk9:Qbc (fun b=>b≠b5) w2 V1:=by rw [hV1];exact Qkk (fun e=>e rfl) _ _ _ _ _ _
   have hzV:V1.heap.size=w2.heap.size:=by rw [hV1];simp [World.setCell]
   refine hK.out _ _ (by rw [HB5.out];exact hbV) (fun _=>?_);clear hK K;refine Zd ?_;obtain ⟨F,hFe⟩:∃ F:Nat→Prop,F=fun b=>w1.heap.size+1≤b∧b<w2.heap.size:=⟨_,rfl⟩
   have hFF:∀ b,F b→b<V1.heap.size∧b≠b5:=fun b hb=>by
    rw [hFe] at hb;rw [hzV,HB5.out];exact ⟨by omega,by omega⟩
   have hG1:RdG (msk V1 F) G L (Qac N.ar ls):=by
    refine hG.le (Le.trans (Qbk (G':=F) (fun b hb=>?_)) (Qbc.msk (hk9.mono (fun b hb=>(hFF b hb).2))));rw [hFe];have h1:=hb.1;have h2:=hb.2;simp at h1;exact ⟨h1,h2⟩
   have hb51:b5<V1.heap.size:=hBX.lt
   have hb52:w1.heap.size≤b5:=by rw [HB5.out];exact Zn _
   have hFL:∀ b,F b→w1.heap.size≤b:=fun b hb=>by rw [hFe] at hb;omega
   clear hG hFe HB5 hbo hb2 hb2' hb3 hV1 hk9 hzV hz3 z0 z1 z2 z3 z4 z5 f0 f1 f2 f3 f4 f5 zl
   exact Kaa
/-! law21.known's chain. -/
end Go.Proofs.YtdheeddnkdhfeaaGreatDoor
