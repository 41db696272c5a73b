/- Parts of the proof: Wi, Fx, Ch4, Ch5, Ch6, Ch7, Ch8, My, Do, Do2, Pe, Sf, Yv. -/
import Derived.Test.YtdheeddnkdhfeaaGreatDoorB24
import Derived.Test.YtdheeddnkdhfeaaGreatDoorB25
namespace Go.Proofs.YtdheeddnkdhfeaaGreatDoor
open Go.RowKit Go.Proofs.Tryz
attribute [local go_sem ↓] Go.wp_at_zero Go.wp_at_succ
def Qqv (G:Nat→Prop)(V W:World):Prop:=Qbc G V W∧V.heap.size≤W.heap.size
theorem Qqv.refl (G:Nat→Prop)(V:World):Qqv G V V:=⟨Qbc.refl _ _,Zn _⟩
theorem Qqv.set {G:Nat→Prop}{V W:World}(h:Qqv G V W){g:Nat}(hg:¬G g)(i:Nat)(v:Value):Qqv G V (W.setCell ⟨g,i,none⟩ v):=⟨h.1.trans (Qbc.set W g i v hg) h.2,Yx h.2 (by simp [World.setCell])⟩
theorem Qgw {P:Program}{f:Func}{Q:Ending→World→Prop}{x:Exit}{a:Act}{w:World}(h:∀ W,W=w→bodyPost P f Q x a W):bodyPost P f Q x a w:=h w rfl
theorem Qjc {x y z:Int}(u:Int):∀ {l:List Tri} {a:Nat},l[a]?=some (x,y,z)→(Qam l).set (a*3+2) (.int .i64 u)=Qam (l.set a (x,y,u))
 | [],a,h=>by simp at h
 | p::t,0,h=>by simp at h;subst h;simp [Qam]
 | p::t,a+1,h=>by
  have:=Qjc u (l:=t) (a:=a) (by simpa using h);rw [show (a+1)*3+2=(a*3+2)+1+1+1 by omega]
  simp [Qam,this]
theorem RdY2.mskd {W:World}{G:Nat→Prop}{A:Option Addr}{n:Nat}{l:List Qea} (h:RdY2 W (msk W G) A n l) (hg:∀ b,Qac A=some b→G b):RdY (msk W G) A n l :=
 ⟨h.1,fun i t ht=>by
  obtain ⟨b,o,e,h1,h2,A',n',c',h3,h4,h5⟩:=h.2 i t ht;have hb:=hg b (by rw [e];rfl);exact ⟨b,o,e,Qat.2 ⟨hb,h1⟩,Qat.2 ⟨hb,h2⟩,A',n',c',Qat.2 ⟨hb,h3⟩,h4,h5⟩⟩
theorem YwR.rdY2 {W:World}{B n c:Nat}{A:Option Addr}{xs:List Value}{ls:List Qea}(h:YwR W B A n c xs ls){G:Nat→Prop}(hG:∀ b,B≤b→Qac A≠some b→G b):RdY2 W (msk W G) A n ls :=
 ⟨h.2.1,fun i t ht=>by
  obtain ⟨A2,n2,c2,h1,h2,h3,h4,h7,h5,h6⟩:=h.2.2 i t ht;obtain ⟨b,o,e,k1⟩:=h.1.rds.2 _ _ h1;obtain ⟨b',o',e',k2⟩:=h.1.rds.2 _ _ h2;rw [e] at e';cases e'
  obtain ⟨b',o',e',k3⟩:=h.1.rds.2 _ _ h3;rw [e] at e';cases e'
  exact ⟨b,o,e,k1,by rw [Nat.add_assoc];exact k2,A2,n2,c2,by rw [Nat.add_assoc];exact k3,h4.msk (fun g hg=>hG g (h7 g hg).1 (h7 g hg).2.2),h5,h6⟩⟩
theorem Le.alloc (W:World)(o:Obj):Le W (W.alloc o):=Le.below ((Zr _ _).alloc (Zn _) o)
theorem Qqh {W W':World}{G G':Nat→Prop}(h:∀ b,G b→G' b)(hl:Le W W'):Le (msk W G) (msk W' G'):=fun a v hc=>by
 obtain ⟨h1,h2⟩:=Qat.1 hc;exact Qat.2 ⟨h _ h1,hl _ _ h2⟩
theorem Qxb {w3:World}{z B gb n m k c' d' e' K a:Nat}{A' C':Option Addr}{xs:List Value}{N:Qal}{x y r:Int}{x1 x2 x3 x4 x5:Value}(hz:z+3≤B)(hK:B≤K)
 (hV:Own w3 B 124 3 A' n c' (Qam N.vs)) (hA:Own w3 B 119 3 (some ⟨gb,0,none⟩) m d' (Qam N.ar)) (hY:YwR w3 K C' k e' xs N.ts)
 (hd:∀ g,Qac A'=some g→Qac (some ⟨gb,0,none⟩)≠some g) (hAK:∀ g,Qac (some ⟨gb,0,none⟩)=some g→g<K) (ha:N.ar[a]?=some (x,y,r)) (u:Int) :
 Qbu (msk ((((((w3.setCell ⟨gb,a*3+2,none⟩ (.int .i64 u)).setCell ⟨z+1,0,none⟩ x1).setCell ⟨z+1,1,none⟩ x2).setCell ⟨z+1,2,none⟩ x3).setCell ⟨z+1+1,0,none⟩ x4).setCell ⟨z+1+1,1,none⟩ x5) (fun b=>z≤b)) A' (some ⟨gb,0,none⟩) C' n m k (N.setW a x y u):=by
 have hgB:B≤gb:=(hA.lt gb rfl).1;have hgK:gb<K:=hAK gb rfl
 have hV1:Own (w3.setCell ⟨gb,a*3+2,none⟩ (.int .i64 u)) B 124 3 A' n c' (Qam N.vs):=hV.far (Qaa _ _ _ _) (.inr (fun e=>hd gb e rfl));have hA1:=hA.setAt (k:=a*3+2) (.int .i64 u);rw [Yz,Qjc u ha] at hA1;have hY1:=hY.far (Qaa w3 gb (a*3+2) (.int .i64 u)) hgK;have hY5:=((((hY1.far (Qaa _ (z+1) 0 x1) (by omega)).far (Qaa _ (z+1) 1 x2) (by omega)).far (Qaa _ (z+1) 2 x3) (by omega)).far (Qaa _ (z+1+1) 0 x4) (by omega)).far (Qaa _ (z+1+1) 1 x5) (by omega);have hV5:=((((hV1.far (Qaa _ (z+1) 0 x1) (.inr (hV1.ne (by omega)))).far (Qaa _ (z+1) 1 x2) (.inr (hV1.ne (by omega)))).far (Qaa _ (z+1) 2 x3) (.inr (hV1.ne (by omega)))).far (Qaa _ (z+1+1) 0 x4) (.inr (hV1.ne (by omega)))).far (Qaa _ (z+1+1) 1 x5) (.inr (hV1.ne (by omega)));have hA5:=((((hA1.far (Qaa _ (z+1) 0 x1) (.inr (hA1.ne (by omega)))).far (Qaa _ (z+1) 1 x2) (.inr (hA1.ne (by omega)))).far (Qaa _ (z+1) 2 x3) (.inr (hA1.ne (by omega)))).far (Qaa _ (z+1+1) 0 x4) (.inr (hA1.ne (by omega)))).far (Qaa _ (z+1+1) 1 x5) (.inr (hA1.ne (by omega)));refine ⟨(Rds.rd3 hV5.rds).msk (fun b e=>?_),(Rds.rd3 hA5.rds).msk (fun b e=>?_),(hY5.rdY2 (fun b hb _=>?_)).mskd (fun b e=>?_)⟩
 · have:=(hV5.lt b e).1;omega
 · have:=(hA5.lt b e).1;omega
 · omega
 · have:=(hY5.1.lt b e).1;omega
set_option maxHeartbeats 1000000 in
theorem Qxl (A B C:Option Addr)(n m k c d e a:Nat)(x y z u:Int)(N:Qal)(w:World)(h:Qbu w A B C n m k N)(hn:n≤1000000)(hm:m≤1000000)(hk:k≤1000000)(hc:∀ t∈N.ts,t.costs.length≤1000000) (ha:N.ar[a]?=some (x,y,z)) (hu:wOk u=true) :
 Calls prog 41 #[.agg #[.slice A n c,.slice B m d,.slice C k e],.int .i64 a,.int .i64 u] w fun r w'=>∃ A' B' C' c' d' e',r=.returned (.tuple #[.agg #[.slice A' n c',.slice B' m d',.slice C' k e'],.agg #[.slice none 0 0,.int .i64 0]])∧Qbu (msk w' (fun b=>w.heap.size≤b)) A' B' C' n m k (N.setW a x y u)∧Below w.heap.size w w':=by
 have hla:=(Zs ha).1;have ham:a<m:=by rw [h.2.1.1] at hla;exact hla
 have HT:=Zh (fun (V:World)=>Qdu A B C n m k c d e (a:Int) V (by omega) (by omega));have HCN:=Zh (fun (V:World) (hV:Below w.heap.size w V)=>Qrf A B C n m k c d e N V (h.below hV) hn hm hk hc)
 have HW:=Zh (show ∀ V,Calls prog 91 #[.int .i64 u] V fun e w'=>e=.returned (.bool true)∧V=w' from fun V=>by
  have:=Qdo u V;rw [hu] at this;exact this)
 have HAR:=Zh ha;have i1:(0:Int)≤(a:Int):=by omega
 have i2:(a:Int)<(m:Int):=by omega
 clear h hn hm hk hc ha hu hla
 go_enter func41,ntmps41
 go_wp2_with fail
 (refine Qad ?_;intro w1 hw1)
 have hb1:Below w.heap.size w w1:=by rw [hw1];exact Qag
 have hJ1:Blk w1 w.heap.size 26 #[.slice A n c,.slice B m d,.slice C k e]:=by rw [hw1];exact Qbf
 have hR1:Blk w1 (w.heap.size+1) 26 #[.slice none 0 0,.slice none 0 0,.slice none 0 0]:=by rw [hw1];exact Qbf
 have hX1:Blk w1 (w.heap.size+1+1) 66 #[.slice none 0 0,.int .i64 0]:=by rw [hw1];exact Qbf
 have hz1:w.heap.size+3≤w1.heap.size:=by rw [hw1];simp
 clear hw1;with_reducible refine (HT.out w1).mono ?_
 rintro r w2 ⟨rfl,hb2⟩;have hb2':=Zb hb1 hb2;have hJ2:=hJ1.below hb2 hJ1.lt;have hR2:=hR1.below hb2 hR1.lt;have hX2:=hX1.below hb2 hX1.lt;have hz2:=Yx hz1 hb2.size;clear hb1 hb2 hJ1 hR1 hX1 hz1
 go_wp2_with fail
 with_reducible refine (HW.out _).mono ?_
 rintro r w' ⟨rfl,rfl⟩;obtain ⟨j0,j1,j2⟩:=hJ2.three
 go_wp2_with fail
 with_reducible refine (HCN.out w2 hb2').mono ?_
 rintro r w3 ⟨A',B',C',c',d',e',K,xs,rfl,hK,hV,hA,hY,hdj,hVK,hAK,hb3⟩;have hb3':=Zb hb2' hb3;have hR3:=hR2.below hb3 hR2.lt;have hX3:=hX2.below hb3 hX2.lt;have hz3:=Yx hz2 hb3.size;clear hJ2 hR2 hX2 hb3 j0 j1 j2 HCN HT;obtain ⟨gb,cur,rfl,hg0,hgb,_,hcz,hcu⟩:=hA.block (by omega);obtain ⟨v0,hv0⟩:∃ v0,cur[a*3+2]?=some v0:=⟨_,Array.getElem?_eq_getElem (by omega)⟩;have ck:w3.cell? ⟨gb,a*3+2,none⟩=some v0:=by rw [hgb.cell];exact hv0
 have fk:=hgb.frozen (a*3+2);have hgl:=hgb.lt;have zR:=hR3.lt;have zX:=hX3.lt;obtain ⟨r0,r1,r2⟩:=hR3.three;have fr0:=hR3.frozen 0;have fr1:=hR3.frozen 1;have fr2:=hR3.frozen 2;obtain ⟨x0,x1,fx0,fx1⟩:=hX3.two;have ne1:¬gb=w.heap.size+1:=by omega
 have ne2:¬gb=w.heap.size+1+1:=by omega
 have ne3:¬w.heap.size+1=gb:=by omega
 have ne4:¬w.heap.size+1+1=gb:=by omega
 have ne5:¬gb=w3.heap.size:=by omega
 have HV:=Zh hV;have HA:=Zh hA;have HY:=Zh hY;have HD:=Zh hdj;have HVK:=Zh hVK;have HAK:=Zh hAK;have HR3:=Zh hR3;have HX3:=Zh hX3;clear hV hA hY hdj hVK hAK hgb hcz hcu hv0 hR3 hX3
 go_wp2_with fail
 refine Qgw ?_;intro W hW
 have hRW:Blk W (w.heap.size+1) 26 #[.slice A' n c',.slice (some ⟨gb,0,none⟩) m d',.slice C' k e']:=by
  rw [hW];exact ((((((HR3.out.far (by simp only;omega) _).set_ 0 _).set_ 1 _).set_ 2 _).far (by simp) _).far (by simp) _).alloc _
 have hXW:Blk W (w.heap.size+1+1) 66 #[.slice none 0 0,.int .i64 0]:=by
  rw [hW];exact ((((((HX3.out.far (by simp only;omega) _).far (by simp) _).far (by simp) _).far (by simp) _).set_ 0 _).set_ 1 _).alloc _
 have hbW:Below w.heap.size w W:=by
  rw [hW];exact Bel.alloc ((((((hb3'.setCell (by simp only;omega) _).setCell (by simp only;omega) _).setCell (by simp only;omega) _).setCell (by simp only;omega) _).setCell (by simp only;omega) _).setCell (by simp only;omega) _)
 have hNW:Qbu (msk W (fun b=>w.heap.size≤b)) A' (some ⟨gb,0,none⟩) C' n m k (N.setW a x y u):=by
  rw [hW];exact (Qxb (x1:=.slice A' n c') (x2:=.slice (some ⟨gb,0,none⟩) m d') (x3:=.slice C' k e') (x4:=.slice none 0 0) (x5:=.int .i64 0) (by omega) hK HV.out HA.out HY.out HD.out HAK.out HAR.out u).le (Qqh (fun b hb=>hb) (Le.alloc _ _))
 clear hW r0 r1 r2 x0 x1;obtain ⟨r0,r1,r2⟩:=hRW.three;obtain ⟨x0,x1,_,_⟩:=hXW.two;refine bodyPost_ret (v:=.tuple #[.agg #[.slice A' n c',.slice (some ⟨gb,0,none⟩) m d',.slice C' k e'],.agg #[.slice none 0 0,.int .i64 0]]) (by simp [results,results41,go_sem,r0,r1,r2,x0,x1]) rfl ?_;exact ⟨A',_,C',c',d',e',rfl,hNW,hbW⟩
end Go.Proofs.YtdheeddnkdhfeaaGreatDoor
namespace Go.Proofs.YtdheeddnkdhfeaaGreatDoor
open Go.RowKit Go.Extern.Stop Go.Stop Go.Extern Go.Proofs.Tryz
attribute [local go_sem ↓] Go.wp_at_zero Go.wp_at_succ
def ErrV (w:World)(v:Value) (ps:List (ByteArray×Int)) (c0:Int):Prop:=(c0=0∧v=.nilIface)∨(c0≠0∧Qcm w v ps c0)
theorem Quj {v:Value}{A:Option Addr}{n c:Nat} {ps:List (ByteArray×Int)} {c0:Int} {w:World} (h:ErrV w v ps c0) (hr:c0≠0→RdW w A n ps) (hg:w.cell? ⟨0,0,none⟩=some Qkg) (hn:n≤4000000000000000000) :
 Calls prog 23 #[v,.agg #[.slice A n c,.int .i64 c0]] w fun e w'=>e=.returned (.bool true)∧Below w.heap.size w w':=by
 rcases h with ⟨rfl,rfl⟩|⟨h0,hc⟩
 · exact Qvh A n c w
 · exact Qnj v A n c ps c0 w hc (hr h0) h0 hg hn
def RefP (w:World)(G0:Nat→Prop)(n m k:Nat)(N':Qal) (ps:List (ByteArray×Int)) (c0:Int) (r:Ending) (w':World):Prop :=
 ∃ (A' B' C':Option Addr) (c' d' e':Nat) (A4:Option Addr) (n4 m4:Nat),r=.returned (.tuple #[.agg #[.slice A' n c',.slice B' m d',.slice C' k e'],.agg #[.slice A4 n4 m4,.int .i64 c0]]) ∧
  Qbu (msk w' (fun b=>G0 b∨w.heap.size≤b)) A' B' C' n m k N'∧(c0≠0→RdW w' A4 n4 ps)∧n4≤1000001∧Below w.heap.size w w'
def GraP (w:World)(F:Nat→Prop)(g:Nat)(N':Qal) (ps:List (ByteArray×Int)) (c0:Int) (r:Ending) (w':World):Prop :=
 ∃ (v:Value) (F':Nat→Prop),r=.returned v∧ErrV w' v ps c0∧(∀ b,F' b→F b∨w.heap.size≤b)∧GrO w' F' g N'∧Qbc (fun b=>¬F b) w w'∧w.heap.size≤w'.heap.size∧(∀ B,B≤w.heap.size→(∀ b,F b→B≤b)→Below B w w')∧(c0≠0→Below w.heap.size w w')
theorem RefP.ok {w w':World}{G0:Nat→Prop}{A' B' C':Option Addr}{n m k c' d' e':Nat}{N':Qal} (h:Qbu (msk w' (fun b=>w.heap.size≤b)) A' B' C' n m k N') (hb:Below w.heap.size w w') :
 RefP w G0 n m k N' [] 0 (.returned (.tuple #[.agg #[.slice A' n c',.slice B' m d',.slice C' k e'],.agg #[.slice none 0 0,.int .i64 0]])) w' :=
 ⟨A',B',C',c',d',e',none,0,0,rfl,h.le (Qbt (fun _ h=>.inr h)),fun h=>absurd rfl h,by omega,hb⟩
theorem Qih.b {N:Qal}(h:Qih N){w:World}{A B C:Option Addr}{n m k:Nat}(hr:Qbu w A B C n m k N):n≤80∧m≤300∧k≤80:=⟨by rw [←hr.1.1];exact h.v,by rw [←hr.2.1.1];exact h.a,by rw [←hr.2.2.1];exact h.t⟩
end Go.Proofs.YtdheeddnkdhfeaaGreatDoor
namespace Go.Proofs.YtdheeddnkdhfeaaGreatDoor
open Go.RowKit Go.Extern.Stop Go.Stop Go.Extern Go.Proofs.Tryz
attribute [local go_sem ↓] Go.wp_at_zero Go.wp_at_succ
def DoN (w:World)(F G0:Nat→Prop)(g n m k:Nat)(N':Qal)(r:Ending)(w':World):Prop :=
 ∃ (A' B' C':Option Addr) (c' d' e':Nat) (F':Nat→Prop),r=.returned (.tuple #[.agg #[.slice A' n c',.slice B' m d',.slice C' k e'],.bool true])∧GrO w' F' g N'∧Qbu (msk w' (fun b=>¬F' b∧(G0 b∨w.heap.size≤b))) A' B' C' n m k N'∧Qih N' ∧
  (∀ b,F' b→F b∨w.heap.size≤b)∧Qbc (fun b=>¬F b) w w'∧w.heap.size≤w'.heap.size∧∀ B,B≤w.heap.size→(∀ b,F b→B≤b)→Below B w w'
def SetT (N N':Qal) (ps:List (ByteArray×Int)) (c0 a u:Int):Prop :=
 (∀ (A B C:Option Addr) (n m k c d e:Nat) (w:World) (G0:Nat→Prop),Qbu (msk w G0) A B C n m k N→Calls prog 41 #[.agg #[.slice A n c,.slice B m d,.slice C k e],.int .i64 a,.int .i64 u] w (RefP w G0 n m k N' ps c0)) ∧
  ∀ (g:Nat) (F:Nat→Prop) (w:World),GrO w F g N→Calls prog 42 #[.pointer (some ⟨g,0,none⟩),.int .i64 a,.int .i64 u] w (GraP w F g N' ps c0)
set_option maxHeartbeats 2000000 in
theorem do_setN (g:Nat)(A B C:Option Addr)(n m k c d e:Nat)(a i o u:Int)(N N':Qal) (ps:List (ByteArray×Int)) (c0:Int) (F G0:Nat→Prop) (w:World) (h:GrO w F g N) (hr:Qbu (msk w (fun b=>¬F b∧G0 b)) A B C n m k N) (hg:w.cell? ⟨0,0,none⟩=some Qkg) (hF0:∀ b,F b→1≤b) (hF':Qih N') (hS:SetT N N' ps c0 a u) :
 Calls prog 12 #[.pointer (some ⟨g,0,none⟩),.agg #[.slice A n c,.slice B m d,.slice C k e],.agg #[.int .i64 0,.int .i64 a,.int .i64 i,.int .i64 o,.int .i64 u]] w (DoN w F G0 g n m k N'):=by
 obtain ⟨hRR,hGG⟩:=hS;have hFL:∀ b,F b→b<w.heap.size:=fun b hb=>h.lt hb
 have HF:=Zh hFL
 have HNR:=Zh (show ∀ V,Below w.heap.size w V→Qbu (msk V (fun b=>(¬F b∧G0 b)∧b<w.heap.size)) A B C n m k N from fun V hV=>hr.le (fun a v hc=>by
  obtain ⟨h1,h2⟩:=Qat.1 hc;exact Qat.2 ⟨⟨h1,Qaj h2⟩,Zc hV (Zn _) h2⟩))
 have HGR:=Zh (show ∀ V,Below w.heap.size w V→GrO V F g N from fun V hV=>h.below hV)
 have hg0:=Qaj hg;simp only at hg0;have HG:=Zh hg;have HF0:=Zh hF0;have HRR:=Zh hRR;have HGG:=Zh hGG;have HF':=Zh hF';clear h hr hg hF0 hFL hRR hGG hF'
 go_enter func12,ntmps12
 go_wp2_with fail
 (refine Qad ?_;intro w1 hw1)
 have hb1:Below w.heap.size w w1:=by rw [hw1];exact Qag
 have hT5:Blk w1 (w.heap.size+1) 42 #[.int .i64 0,.int .i64 a,.int .i64 i,.int .i64 o,.int .i64 u]:=by rw [hw1];exact Qbf
 have hT6:Blk w1 (w.heap.size+1+1) 26 #[.slice none 0 0,.slice none 0 0,.slice none 0 0]:=by rw [hw1];exact Qbf
 have hz1:w1.heap.size=w.heap.size+3:=by rw [hw1];simp
 clear hw1;with_reducible refine (HRR.out A B C n m k c d e w1 _ (HNR.out w1 hb1)).mono ?_
 rintro r w2 ⟨A',B',C',c',d',e',A4,n4,m4,rfl,hnet,hwr,hn4,hb2⟩;have hb2':=Zb hb1 hb2;have hT52:=hT5.below hb2 hT5.lt;have hT62:=hT6.below hb2 hT6.lt;have hz2:=hb2.size;have HNET:=Zh hnet;have HWR:=Zh hwr;clear hb1 hb2 hT5 hT6 hnet hwr HNR
 go_wp2_with fail
 (refine Qai ?_;intro w3 hw3)
 have hb3:Below w2.heap.size w2 w3:=by rw [hw3];exact Qag
 have hT8:Blk w3 w2.heap.size 26 #[.slice A' n c',.slice B' m d',.slice C' k e']:=by rw [hw3];exact Qbf
 have hT9:Blk w3 (w2.heap.size+1) 66 #[.slice A4 n4 m4,.int .i64 c0]:=by rw [hw3];exact Qbf
 have hb3':=Zb hb2' hb3;have hT53:=hT52.below hb3 hT52.lt;have hT63:=hT62.below hb3 hT62.lt;have hz3:=hb3.size;have HB3:=Zh hb3;clear hw3 hb3 hT52 hT62 hb2';obtain ⟨g8,hg8⟩:∃ x,x=w2.heap.size:=⟨_,rfl⟩;rw [←hg8] at hT8 hT9 ⊢;have hl8:=hT8.lt;have hl9:=hT9.lt
 have HSX:=Zh (show ∀ X:World,(Blk X (w.heap.size+1) 42 #[.int .i64 0,.int .i64 a,.int .i64 i,.int .i64 o,.int .i64 u]∧Blk X g8 26 #[.slice A' n c',.slice B' m d',.slice C' k e']∧Blk X (g8+1) 66 #[.slice A4 n4 m4,.int .i64 c0]) →
  X.cell? ⟨w.heap.size+1,1,none⟩=some (.int .i64 a)∧X.cell? ⟨w.heap.size+1,2,none⟩=some (.int .i64 i)∧X.cell? ⟨w.heap.size+1,3,none⟩=some (.int .i64 o)∧X.cell? ⟨w.heap.size+1,4,none⟩=some (.int .i64 u) ∧
  X.cell? ⟨g8,0,none⟩=some (.slice A' n c')∧X.cell? ⟨g8,1,none⟩=some (.slice B' m d')∧X.cell? ⟨g8,2,none⟩=some (.slice C' k e')∧X.cell? ⟨g8+1,0,none⟩=some (.slice A4 n4 m4)∧X.cell? ⟨g8+1,1,none⟩=some (.int .i64 c0) from fun X ⟨h1,h2,h3⟩=>by
  refine ⟨?_,?_,?_,?_,h2.three.1,h2.three.2.1,h2.three.2.2,h3.two.1,h3.two.2.1⟩
  all_goals (rw [h1.cell];rfl))
 have hg8z:w.heap.size+3≤g8:=by omega
 have HG8:=Zh hg8;clear hg8;refine wp_region_held_drew (S:=fun X=>Blk X (w.heap.size+1) 42 #[.int .i64 0,.int .i64 a,.int .i64 i,.int .i64 o,.int .i64 u]∧Blk X g8 26 #[.slice A' n c',.slice B' m d',.slice C' k e']∧Blk X (g8+1) 66 #[.slice A4 n4 m4,.int .i64 c0]) (by kernel_rfl) ⟨hT53.drew,hT8.drew,hT9.drew⟩ (fun _=>?_);refine tz 0 24 ?_;refine tz 1 25 ?_;refine tz 2 26 ?_;refine tz 3 27 ?_;refine tz 4 28 ?_;refine tz 5 29 ?_;refine tz 7 31 ?_;refine Zk 6 (fun K hK=>?_);go_simp;have hbd:Below w3.heap.size w3 w3.drew:=(Zr _ _).drew;with_reducible refine (HGG.out g F _ (HGR.out _ (hb3'.drew))).mono ?_
 rintro r w4 ⟨v,F',rfl,herr,hFF,hgr,hkp,hz4,hbl,hno⟩;have hk4:Qbc (fun b=>¬F b) w3 w4:=hkp;have hz4:w3.heap.size≤w4.heap.size:=hz4;have hbl4:∀ B,B≤w3.heap.size→(∀ b,F b→B≤b)→Below B w3 w4:=fun B h1 h2=>(Zr B w3).drew.trans (hbl B h1 h2)
 have hno4:c0≠0→Below w3.heap.size w3 w4:=fun h=>hbd.trans (hno h)
 have hFF:∀ b,F' b→F b∨w3.heap.size≤b:=hFF;have nF:∀ b,w.heap.size≤b→¬F b:=fun b hb hf=>by have:=HF.out b hf;omega
 have hT54:Blk w4 (w.heap.size+1) 42 #[.int .i64 0,.int .i64 a,.int .i64 i,.int .i64 o,.int .i64 u]:=(hk4 _ (nF _ (by omega)) hT53.lt).trans hT53;have hT64:Blk w4 (w.heap.size+1+1) 26 #[.slice none 0 0,.slice none 0 0,.slice none 0 0]:=(hk4 _ (nF _ (by omega)) hT63.lt).trans hT63;have hT84:=(show Blk w4 g8 26 #[.slice A' n c',.slice B' m d',.slice C' k e'] from (hk4 _ (nF _ (by omega)) hT8.lt).trans hT8)
 have hT94:=(show Blk w4 (g8+1) 66 #[.slice A4 n4 m4,.int .i64 c0] from (hk4 _ (nF _ (by omega)) hT9.lt).trans hT9)
 have hg3:w3.cell? ⟨0,0,none⟩=some Qkg:=Zc hb3' (Zn _) HG.out;have hg4:w4.cell? ⟨0,0,none⟩=some Qkg:=((hbl4 1 (by omega) (fun b hb=>HF0.out b hb)).cell (by simp)).trans hg3;have HTL:=Zh (Quj (A:=A4) (n:=n4) (c:=m4) herr (fun h=>((HWR.out h).below HB3.out).below (hno4 h)) hg4 (by omega));have HK4:=Zh hk4;have HBL4:=Zh hbl4;have HGRN:=Zh hgr;have HFF:=Zh hFF;clear hkp hbl hno hk4 hbl4 hno4 hFF hgr herr hg3 hg4 hT53 hT63 hT8 hT9 hbd HGR HGG HRR
 go_wp2_with fail
 refine hK.out _ _ ⟨hT54,hT84,hT94⟩ (fun _=>?_);clear hK K;refine Zk 8 (fun K hK=>?_);go_simp;with_reducible refine HTL.out.mono ?_
 rintro r w5 ⟨rfl,hb5⟩;have hT55:=hT54.below hb5 hT54.lt;have hT65:=hT64.below hb5 hT64.lt;have hT85:=hT84.below hb5 hT84.lt;have hT95:=hT94.below hb5 hT94.lt;have hz5:=hb5.size;have HB5:=Zh hb5;clear hb5 hT54 hT64 hT84 hT94 HTL HWR
 go_wp2_with fail
 refine hK.out _ _ ⟨hT55,hT85,hT95⟩ (fun _=>?_);clear hK K;obtain ⟨q0,q1,q2⟩:=hT65.three;have fq0:=hT65.frozen 0;have fq1:=hT65.frozen 1;have fq2:=hT65.frozen 2;refine Zk 9 (fun K hK=>?_);go_simp;refine hK.out _ _ ⟨((hT55.far (by simp only;omega) _).far (by simp only;omega) _).far (by simp only;omega) _,((hT85.far (by simp only;omega) _).far (by simp only;omega) _).far (by simp only;omega) _,((hT95.far (by simp only;omega) _).far (by simp only;omega) _).far (by simp only;omega) _⟩ (fun _=>?_);clear hK K q0 q1 q2 fq0 fq1 fq2;refine tz 10 7 ?_;refine Zd ?_
 go_wp2_with fail
 refine Qgw ?_;intro W hW;have hRW:Blk W (w.heap.size+1+1) 26 #[.slice A' n c',.slice B' m d',.slice C' k e']:=by rw [hW];exact ((hT65.set_ 0 _).set_ 1 _).set_ 2 _
 have hS:Qqv (fun b=>b≠w.heap.size+1+1) w5 W:=by
  rw [hW];exact (((Qqv.refl _ _).set (by simp) _ _).set (by simp) _ _).set (by simp) _ _
 have hbS:Below (w.heap.size+1+1) w5 W:=by
  rw [hW];exact (((Zr (w.heap.size+1+1) w5).setCell (p:=⟨w.heap.size+1+1,0,none⟩) (Zn _) (.slice A' n c')).setCell (p:=⟨w.heap.size+1+1,1,none⟩) (Zn _) (.slice B' m d')).setCell (p:=⟨w.heap.size+1+1,2,none⟩) (Zn _) (.slice C' k e')
 clear hW hT55 hT65 hT85 hT95;obtain ⟨r0,r1,r2⟩:=hRW.three;refine bodyPost_ret (v:=.tuple #[.agg #[.slice A' n c',.slice B' m d',.slice C' k e'],.bool true]) (by simp [results,results12,go_sem,r0,r1,r2]) rfl ?_;have e8:=HG8.out
 have keep:∀ b,¬F b→b≠w.heap.size+1+1→b<w3.heap.size→W.heap[b]?=w3.heap[b]?:=fun b h1 h2 h3 =>
  ((hS.1 b h2 (by omega)).trans (HB5.out.block b (by omega))).trans (HK4.out b h1 h3)
 refine ⟨A',B',C',c',d',e',F',rfl,(HGRN.out.below HB5.out).keep hS.2 (fun b hb hl=>hS.1 b (fun e=>?_) hl),HNET.out.le (fun x v hc=>?_),HF'.out,fun b hb=>?_,fun b hb hl=>?_,?_,fun B0 h1 h2=>?_⟩
 · rcases HFF.out b hb with h|h
   · have:=HF.out b h;omega
   · omega
 · obtain ⟨h1,h2⟩:=Qat.1 hc
   have h3:=Qaj h2
   have hnF:¬F x.block:=by
    rcases h1 with h1|h1
    · exact h1.1.1
    · exact nF _ (by omega)
   have hg0':G0 x.block∨w.heap.size≤x.block:=by
    rcases h1 with h1|h1
    · exact .inl h1.1.2
    · exact .inr (by omega)
   have hne:x.block≠w.heap.size+1+1:=by
    rcases h1 with h1|h1
    · have:=h1.2;omega
    · omega
   refine Qat.2 ⟨⟨fun h=>?_,hg0'⟩,?_⟩
   · rcases HFF.out _ h with h|h
     · exact hnF h
     · omega
   · rw [World.cell?_of_block ((keep _ hnF hne (by omega)).trans (HB3.out.block _ h3))]
     exact h2
 · rcases HFF.out b hb with h|h
   · exact .inl h
   · exact .inr (by omega)
 · exact (keep b hb (by omega) (by omega)).trans (hb3'.block b hl)
 · have:=hS.2;have:=hb3'.size;omega
 · exact (((hb3'.mono h1).trans (HBL4.out B0 (by omega) h2)).trans (HB5.out.mono (by omega))).trans (hbS.mono (by omega))
theorem set_at (N:Qal)(hF:Qih N){q:Nat}{x y z u:Int} (ha:N.ar[q]?=some (x,y,z)) (hu:wOk u=true):Qih (N.setW q x y u)∧SetT N (N.setW q x y u) [] 0 (q:Int) u:=by
 refine ⟨hF.setW _ _ _ _,fun A B C n m k c d e w G0 hr=>?_,fun g F w hg=>?_⟩
 · have hr':=hr.le (Qaw w G0)
   have hb:=hF.b hr';refine (Qxl A B C n m k c d e q x y z u N w hr' (by omega) (by omega) (by omega) (fun t ht=>by have:=hF.c t ht;omega) ha hu).mono ?_;rintro r w' ⟨A',B',C',c',d',e',rfl,h1,h2⟩;exact RefP.ok h1 h2
 · refine (gSet_ok g q x y z u N F w hg ha hu).mono ?_
   rintro r w' ⟨rfl,h1,h2,h3,h4⟩;exact ⟨_,F,rfl,.inl ⟨rfl,rfl⟩,fun _ h=>.inl h,h1,h2,h3,fun B _ hB=>h4 B hB,fun h=>absurd rfl h⟩
end Go.Proofs.YtdheeddnkdhfeaaGreatDoor
namespace Go.Proofs.YtdheeddnkdhfeaaGreatDoor
open Go.RowKit Go.Proofs.Tryz
attribute [local go_sem ↓] Go.wp_at_zero Go.wp_at_succ
theorem Qqz {n:Nat} {p:Option (List Int)} {l:List Int} (h:Qek n p l=0):Qfo n l∧∀ q,p=some q→Qde q l:=by
 unfold Qek at h
 split at h
 · cases h
 · split at h
   · assumption
   · cases h
set_option maxHeartbeats 2000000 in
set_option maxRecDepth 20000 in
theorem Qmn (Q:Option Addr)(n L cq:Nat) (ls:List (List Int)) (w:World) (h:RdT w Q L ls) :
 Calls prog 86 #[.int .i64 n,.agg #[.slice Q L cq],.slice none 0 0] w fun e w'=>Qbs (Qba n ls) e∧Below w.heap.size w w':=by
 have HT:=Zh h;clear h
 by_cases q0:(n:Int) > 4096
 · go_enter func86,ntmps86
   go_wp2_with fail
   (refine Qad ?_;intro w5 hw5)
   have hB5:Blk w5 (w.heap.size+1) 66 #[.slice none 0 0,.int .i64 0]:=by rw [hw5];exact Qbf
   have hb5:Below w.heap.size w w5:=by rw [hw5];exact Qag
   clear hw5;with_reducible refine (Qav _ _ _ _).mono ?_
   rintro e w2 ⟨⟨A4,n4,m4,rfl,hg4⟩,hb⟩;have hB2:=Blk.below hB5 hb hB5.lt;obtain ⟨c0,c1,f0,f1⟩:=hB2.two;have hb2:Below w.heap.size w w2:=Zb hb5 hb
   go_wp2_with fail
   refine bodyPost_ret (v:=.agg #[.slice A4 n4 m4,.int .i64 4]) (by simp [results,results86,go_sem,c0,c1]) rfl ?_
   first | exact ⟨Qbs.no (by decide),Qag⟩ | exact ⟨Qcs.no (Wg.mono (B:=w5.heap.size) (Wg.setCell (Wg.setCell hg4 hB5.lt _) hB5.lt _) hb5.size) (by decide),Qag⟩
 by_cases q1:(L:Int) > 6
 · go_enter func86,ntmps86
   go_wp2_with fail
   (refine Qad ?_;intro w5 hw5)
   have hB5:Blk w5 (w.heap.size+1) 66 #[.slice none 0 0,.int .i64 0]:=by rw [hw5];exact Qbf
   have hb5:Below w.heap.size w w5:=by rw [hw5];exact Qag
   clear hw5;with_reducible refine (Qav _ _ _ _).mono ?_
   rintro e w2 ⟨⟨A4,n4,m4,rfl,hg4⟩,hb⟩;have hB2:=Blk.below hB5 hb hB5.lt;obtain ⟨c0,c1,f0,f1⟩:=hB2.two;have hb2:Below w.heap.size w w2:=Zb hb5 hb
   go_wp2_with fail
   refine bodyPost_ret (v:=.agg #[.slice A4 n4 m4,.int .i64 4]) (by simp [results,results86,go_sem,c0,c1]) rfl ?_
   first | exact ⟨Qbs.no (by decide),Qag⟩ | exact ⟨Qcs.no (Wg.mono (B:=w5.heap.size) (Wg.setCell (Wg.setCell hg4 hB5.lt _) hB5.lt _) hb5.size) (by decide),Qag⟩
 by_cases q2:L=0
 · have j1:((L:Int) == 0)=true:=by simp;exact q2
   go_enter func86,ntmps86
   go_wp2_with fail
   (refine Qad ?_;intro w5 hw5)
   have hB5:Blk w5 (w.heap.size+1) 66 #[.slice none 0 0,.int .i64 0]:=by rw [hw5];exact Qbf
   have hb5:Below w.heap.size w w5:=by rw [hw5];exact Qag
   clear hw5;with_reducible refine (Qav _ _ _ _).mono ?_
   rintro e w2 ⟨⟨A4,n4,m4,rfl,hg4⟩,hb⟩;have hB2:=Blk.below hB5 hb hB5.lt;obtain ⟨c0,c1,f0,f1⟩:=hB2.two;have hb2:Below w.heap.size w w2:=Zb hb5 hb
   go_wp2_with fail
   refine bodyPost_ret (v:=.agg #[.slice A4 n4 m4,.int .i64 1]) (by simp [results,results86,go_sem,c0,c1]) rfl ?_
   first | exact ⟨Qbs.no (by decide),Qag⟩ | exact ⟨Qcs.no (Wg.mono (B:=w5.heap.size) (Wg.setCell (Wg.setCell hg4 hB5.lt _) hB5.lt _) hb5.size) (by decide),Qag⟩
 have j1:((L:Int) == 0)=false:=by simp;exact q2
 go_enter func86,ntmps86
 go_wp2_with fail
 (refine Qai ?_;intro w1 hw1)
 have hb1:Below w.heap.size w w1:=by rw [hw1];exact Qag
 have hQ:Blk w1 w.heap.size 29 #[.slice Q L cq]:=by rw [hw1];exact Qbf
 have hB:Blk w1 (w.heap.size+1) 66 #[.slice none 0 0,.int .i64 0]:=by rw [hw1];exact Qbf
 clear hw1
 go_loopw [7] (fun q W=>Below w.heap.size w W∧Blk W w.heap.size 29 #[.slice Q L cq]∧Blk W (w.heap.size+1) 66 #[.slice none 0 0,.int .i64 0]∧∃ i:Nat,i≤L∧q=.int .i64 ((i:Int)+1)∧∀ (j:Nat) (l:List Int),j<i→ls[j]?=some l→Qfo n l∧∀ q,Qfn ls j=some q→Qde q l) (fun q _=>L+1-(intOf q).toNat)
 case atStart=>exact ⟨hb1,hQ,hB,0,Nat.zero_le _,rfl,fun _ _ h=>absurd h (Nat.not_lt_zero _)⟩
 case round =>
  clear hb1 hQ hB;obtain ⟨hbl,hQ,hB,i,hi,rfl,hall⟩:=hrel;have HA:=Zh hall;clear hall;have y0:=hQ.cell 0;simp only [Yo,Yn] at y0
  by_cases hlt:i<L
  · obtain ⟨l,hl⟩:∃ l,ls[i]?=some l:=⟨_,Zg (by rw [HT.out.1];exact hlt)⟩
    have HCL:=Zh (Qkm Q n L cq i ls l wr (HT.out.below hbl) hl (by omega) (by omega) (fun j p e hp=>(HA.out j p (by omega) hp).1.len));have HLL:=Zh hl;have HI:=Zh (@Qqz n (Qfn ls i) l);have i1:(i:Int)+1≤(L:Int):=by omega
    clear hl;generalize Qek n (Qfn ls i) l=code at *
    go_wp2_with fail
    with_reducible refine HCL.out.mono ?_
    rintro e w2 ⟨rfl,hb2⟩;have hQ2:=hQ.below hb2 hQ.lt;have hB2:=hB.below hb2 hB.lt;have hbw2:=Zb hbl hb2;clear hQ hB y0 HCL hb2
    by_cases hc:code=0
    · subst hc
      have HO:=Zh (HI.out rfl);clear HI
      go_wp2_with fail
      go_roundw
      case rel=>exact ⟨hbw2,hQ2,hB2,i+1,by omega,by go_num,fun j l' hj hl'=>by
       by_cases e:j=i
       · subst e
         rw [HLL.out] at hl'
         cases hl'
         exact HO.out
       · exact HA.out j l' (by omega) hl'⟩
      case measure=>simp [intOf];omega
    · have e1:(code == 0)=false:=by simpa using hc
      have e2:(code != 0)=true:=by simpa using hc
      have HC:=Zh hc;clear hc
      go_wp2_with fail
      with_reducible refine (Qav _ _ _ _).mono ?_
      rintro e w3 ⟨⟨A4,n4,m4,rfl,hg4⟩,hb3⟩;have hB3:=hB2.below hb3 hB2.lt;obtain ⟨c0,c1,f0,f1⟩:=hB3.two;have hbw3:=Zb hbw2 hb3
      go_wp2_with fail
      refine bodyPost_ret (v:=.agg #[.slice A4 n4 m4,.int .i64 code]) (by simp [results,results86,go_sem,c0,c1]) rfl ?_;exact ⟨Qbs.no HC.out,Qag⟩
  · obtain rfl:L=i:=by omega
    obtain ⟨c0,c1,f0,f1⟩:=hB.two;have zB:=hB.lt
    have HP:=Zh (show Qba n ls from ⟨by rw [HT.out.1];omega,by rw [HT.out.1];omega,fun l hl=>by
     obtain ⟨j,hj⟩:=Yr hl;exact (HA.out j l (by rw [←HT.out.1];exact (Zs hj).1) hj).1,fun j p l hp hl=>(HA.out (j+1) l (by rw [←HT.out.1];exact (Zs hl).1) hl).2 p (by rw [Qgr];exact hp)⟩)
    clear HA
    go_wp2_with fail
    refine bodyPost_ret (v:=.agg #[.slice none 0 0,.int .i64 0]) (by simp [results,results86,go_sem,c0,c1]) rfl ?_;exact ⟨⟨_,_,_,_,rfl,.inl ⟨rfl,HP.out⟩⟩,Qag⟩
structure FewP (ls:List (List Int)):Prop where
 l:ls.length≤10
 r:∀ l∈ls,l.length≤60
set_option maxHeartbeats 1000000 in
theorem fewP_any (Q:Option Addr)(L cq:Nat) (ls:List (List Int)) (w:World) (h:RdT w Q L ls) (hL:L≤9223372036854775807) :
 Calls prog 85 #[.agg #[.slice Q L cq]] w fun e w'=>Qhz (FewP ls) e∧Below w.heap.size w w':=by
 have HT:=Zh h;have HLE:=Zh h.1;clear h
 go_enter func85,ntmps85
 go_wp2_with fail
 (refine Qai ?_;intro w1 hw1)
 have hb1:Below w.heap.size w w1:=by rw [hw1];exact Qag
 have hQ:Blk w1 w.heap.size 29 #[.slice Q L cq]:=by rw [hw1];exact Qbf
 have H1:=Zh (HT.out.below hb1);clear hw1;have y0:=hQ.cell 0;simp only [Yo,Yn] at y0
 go_loop [3] (fun q=>∃ i:Nat,i≤L∧q=.int .i64 i∧∀ j l,j<i→ls[j]?=some l→l.length≤60) (fun q=>L-(intOf q).toNat)
 case atStart=>exact ⟨0,Nat.zero_le _,rfl,fun _ _ h=>absurd h (Nat.not_lt_zero _)⟩
 case round =>
  obtain ⟨i,hi,rfl,hall⟩:=hrel;have HA:=Zh hall;clear hall
  by_cases hlt:i<L
  · obtain ⟨b,o,A,n,c,l,rfl,hl,hc,hr,q1,q2⟩:=H1.out.at_ hlt
    have i1:(0:Int)≤(i:Int):=by omega
    have i2:(i:Int)<(L:Int):=by omega
    have HLL:=Zh hl;have HR:=Zh hr.1;clear hl hr
    by_cases q3:(n:Int) > 60
    · go_wp2_with fail
      go_ret
      exact ⟨⟨false,rfl,fun h=>by cases h⟩,hb1⟩
    · go_wp2_with fail
      go_round
      case rel=>exact ⟨i+1,by omega,by go_num,fun j l' hj hl'=>by
       by_cases e:j=i
       · subst e
         rw [HLL.out] at hl'
         cases hl'
         rw [HR.out];omega
       · exact HA.out j l' (by omega) hl'⟩
      case measure=>simp [intOf];omega
  · obtain rfl:L=i:=by omega
    go_wp2_with fail
    go_ret
    refine ⟨⟨_,rfl,fun h=>⟨by rw [HLE.out];have:=of_decide_eq_true h;omega,fun l hl=>?_⟩⟩,hb1⟩;obtain ⟨j,hj⟩:=Yr hl;exact HA.out j l (by rw [←HLE.out];exact (Zs hj).1) hj
set_option maxHeartbeats 1000000 in
theorem Qvr (Q:Option Addr)(n L cq:Nat) (ls:List (List Int)) (w:World) (h:RdT w Q L ls) (hL:L≤9223372036854775807) :
 Calls prog 38 #[.int .i64 n,.agg #[.slice Q L cq]] w fun e w'=>Qhz (FewP ls∧n≤60∧Qba n ls) e∧Below w.heap.size w w':=by
 have HT:=Zh h;clear h
 go_enter func38,ntmps38
 go_wp2_with fail
 (refine Qad ?_;intro w1 hw1)
 have hb1:Below w.heap.size w w1:=by rw [hw1];exact Qag
 have hQ:Blk w1 w.heap.size 29 #[.slice Q L cq]:=by rw [hw1];exact Qbf
 clear hw1;with_reducible refine (fewP_any Q L cq ls w1 (HT.out.below hb1) hL).mono ?_
 rintro e w2 ⟨⟨bb,rfl,hf⟩,hb2⟩;have hbw2:=Zb hb1 hb2;have y0:=(hQ.below hb2 hQ.lt).cell 0;simp only [Yo,Yn] at y0;clear hQ hb2
 cases bb
 · go_wp2_with fail
   go_ret
   exact ⟨⟨false,rfl,fun h=>by cases h⟩,hbw2⟩
 have HF:=Zh (hf rfl);clear hf
 by_cases q0:(n:Int)≤60
 rotate_left
 · go_wp2_with fail
   go_ret
   exact ⟨⟨false,rfl,fun h=>by cases h⟩,hbw2⟩
 go_wp2_with fail
 with_reducible refine (Qmn Q n L cq ls w2 (HT.out.below hbw2)).mono ?_
 rintro e w3 ⟨⟨A4,k4,c4,x,rfl,hx⟩,hb3⟩;have hbw3:=Zb hbw2 hb3;have hfe:=Qrn A4 k4 c4 x w3;clear y0
 rcases hx with ⟨rfl,hG⟩|hx
 · have HG:=Zh hG
   clear hG
   go_wp2_with fail
   go_ret
   exact ⟨⟨true,rfl,fun _=>⟨HF.out,by omega,HG.out⟩⟩,hbw3⟩
 · go_wp2_with fail
   go_ret
   exact ⟨⟨_,rfl,fun h=>absurd (by simpa using h) hx⟩,hbw3⟩
structure MayOk (N:Qal) (ls:List (List Int)):Prop where
 small:Qvo N
 few:FewP ls
 part:Qba N.vs.length ls
set_option maxHeartbeats 1000000 in
theorem Qvx (A B C Q:Option Addr)(n m k c d e L cq:Nat)(N:Qal) (ls:List (List Int)) (w:World) (h:Qbu w A B C n m k N) (hk:k≤9223372036854775807) (hq:RdT w Q L ls) (hL:L≤9223372036854775807) :
 Calls prog 9 #[.agg #[.slice A n c,.slice B m d,.slice C k e],.agg #[.slice Q L cq]] w fun e w'=>Qhz (MayOk N ls) e∧Below w.heap.size w w':=by
 have HH:=Zh h;have HT:=Zh hq;have HLV:=Zh h.1.1;clear h hq
 go_enter func9,ntmps9
 go_wp2_with fail
 (refine Qad ?_;intro w1 hw1)
 have hb1:Below w.heap.size w w1:=by rw [hw1];exact Qag
 have hN:Blk w1 w.heap.size 26 #[.slice A n c,.slice B m d,.slice C k e]:=by rw [hw1];exact Qbf
 have hQ:Blk w1 (w.heap.size+1) 29 #[.slice Q L cq]:=by rw [hw1];exact Qbf
 clear hw1;with_reducible refine (Qvq A B C n m k c d e N w1 (HH.out.below hb1) hk).mono ?_
 rintro r w2 ⟨⟨bb,rfl,hf⟩,hb2⟩;have hbw2:=Zb hb1 hb2;have y0:=(hQ.below hb2 hQ.lt).cell 0;simp only [Yo,Yn] at y0;obtain ⟨n0,n1,n2⟩:=(hN.below hb2 hN.lt).three;clear hQ hb2 hN
 cases bb
 · go_wp2_with fail
   go_ret
   exact ⟨⟨false,rfl,fun h=>by cases h⟩,hbw2⟩
 have HF:=Zh (hf rfl);clear hf
 go_wp2_with fail
 with_reducible refine (Qvr Q n L cq ls w2 (HT.out.below hbw2) hL).mono ?_
 rintro r w3 ⟨⟨bb,rfl,hf⟩,hb3⟩;have HF2:=Zh hf;have hbw3:=Zb hbw2 hb3;clear hf
 go_wp2_with fail
 go_ret
 exact ⟨⟨bb,rfl,fun h=>⟨HF.out,(HF2.out h).1,by rw [HLV.out];exact (HF2.out h).2.2⟩⟩,hbw3⟩
theorem Qit {N:Qal} {ls:List (List Int)} (h:MayOk N ls):Qby (gatesOf N.ar ls)≤1000000000:=by
 have hA:=h.small.a;have hv:=h.small.v;have h6:=h.part.l6
 have hx:∀ x∈(gatesOf N.ar ls).map Qed,x≤194400:=fun z hz=>by
  obtain ⟨row,hr,rfl⟩:=List.mem_map.1 hz;obtain ⟨l,hl,rfl⟩:=List.mem_map.1 hr
  have hm:∀ y∈(gateRow N.ar l).map szG,y≤8100:=fun y hy=>by
   obtain ⟨x,hx,rfl⟩:=List.mem_map.1 hy;obtain ⟨c,hc⟩:=Yr hx;have g:=Qbo hc;unfold szG;have:=Nat.mul_le_mul (show x.1.length≤90 by omega) (show x.2.length≤90 by omega)
   omega
  have h1:=Qro hm;have h2:=h.part.lvl l hl;have h3:=Qdd (l:=l) (n:=(N.vs.length:Int)) (fun x hx=>h2.hi x hx) (by omega);rw [List.length_map,Qar] at h1;have h4:(Qax l).toNat*8100≤24*8100:=Nat.mul_le_mul_right _ (by omega);unfold Qed;omega
 have h1:=Qro hx;rw [List.length_map,show (gatesOf N.ar ls).length=ls.length by simp [gatesOf]] at h1
 have h4:ls.length*194400≤6*194400:=Nat.mul_le_mul_right _ (by omega);unfold Qby;omega
end Go.Proofs.YtdheeddnkdhfeaaGreatDoor
namespace Go.Proofs.YtdheeddnkdhfeaaGreatDoor
open Go.RowKit Go.Extern.Stop Go.Stop Go.Extern Go.Proofs.Tryz
attribute [local go_sem ↓] Go.wp_at_zero Go.wp_at_succ
theorem Qxu (a m:Nat)(ha:a≤65535)(hm:0<m)(h9:m≤1000000000):∃ s:Nat,s<m∧Int.tmod (a:Int) (m:Int)=(s:Int)∧(a:Int) % (m:Int)=(s:Int)∧IntKind.i64.wrap (s:Int)=(s:Int)∧IntKind.i64.wrap (a:Int)=(a:Int):=by
 have h:=Nat.mod_lt a hm;exact ⟨a % m,h,(Int.ofNat_tmod a m).symm,rfl,IntWalk.i64_in _ (by omega),IntWalk.i64_in _ (by omega)⟩
theorem Qgt.fw_ {N:Qal}{s t:Nat}{v:Int}(h:Qgt N s t v)(hv:v≠1152921504606846976){y:Tri} (hy:N.ar[s]?=some y):y.2.2≠1152921504606846976:=by
 rw [←(Qbn hy).2.2]
 rcases h with ⟨_,h2⟩|⟨h1,_⟩
 · exact absurd h2 hv
 · exact h1
set_option maxHeartbeats 400000 in
theorem Qsb (A:Option Addr)(n c:Nat)(l:List Int)(a:Int)(w:World)(h:RdI w A n l)(hn:n≤1000000000)(ha:a ∉ l) :
 Calls prog 30 #[.slice A n c,.int .i64 a] w fun e w'=>e=.returned (.int .i64 (-1))∧w=w':=by
 go_enter func30,ntmps30
 go_wp2
 go_loop [5] (fun i=>∃ k:Nat,k≤n∧i=.int .i64 k) (fun i=>n-(intOf i).toNat)
 case atStart=>exact ⟨0,Nat.zero_le _,rfl⟩
 case round =>
  obtain ⟨k,hk,rfl⟩:=hrel
  by_cases hlt:k<n
  · obtain ⟨b,o,x,rfl,hx,hc⟩:=h.at_ hlt
    have hne:(x == a)=false:=by simp only [beq_eq_false_iff_ne];intro e;subst e;exact ha (Zm hx)
    clear hx
    go_wp2
    go_round
    case rel=>exact ⟨k+1,by omega,by go_num⟩
    case measure=>simp [intOf];omega
  · go_wp2
    go_ret
    exact ⟨rfl,rfl⟩
set_option maxRecDepth 20000 in
set_option maxHeartbeats 60000000 in
theorem Qmp (A B C Q:Option Addr)(n m k c d e L cq:Nat)(N:Qal) (ls:List (List Int)) (a b k0:Int) (w:World) (h:Qbu w A B C n m k N) (hk:k≤9223372036854775807) (hq:RdT w Q L ls) (hL:L≤9223372036854775807) (ha:0≤a∧a≤65535) (hb:0≤b∧b≤65535) (hj:0≤k0∧k0≤255) (hg:w.cell? ⟨0,0,none⟩=some Qkg) :
 Calls prog 7 #[.agg #[.slice A n c,.slice B m d,.slice C k e],.agg #[.slice Q L cq],.int .u16 a,.int .u16 b,.int .u8 k0] w fun r w'=>r=.returned (.bool true)∧Below w.heap.size w w':=by
 obtain ⟨an,rfl⟩:∃ an:Nat,a=(an:Int):=⟨a.toNat,by omega⟩;obtain ⟨bn,rfl⟩:∃ bn:Nat,b=(bn:Int):=⟨b.toNat,by omega⟩;obtain ⟨kn,rfl⟩:∃ kn:Nat,k0=(kn:Int):=⟨k0.toNat,by omega⟩;have HH:=Zh h;have HT:=Zh hq;have HG:=Zh hg;have HNA:=Zh (show N.ar.length=m from h.2.1.1)
 have HNV:=Zh (show N.vs.length=n from h.1.1)
 clear h hq hg
 go_enter func7,ntmps7
 go_wp2_with fail
 (refine Qad ?_;intro w1 hw1)
 have hb1:Below w.heap.size w w1:=by rw [hw1];exact Qag
 have hX:Blk w1 w.heap.size 26 #[.slice A n c,.slice B m d,.slice C k e]:=by rw [hw1];exact Qbf
 have hY:Blk w1 (w.heap.size+1) 29 #[.slice Q L cq]:=by rw [hw1];exact Qbf
 clear hw1;with_reducible refine (Que w1 (Zc hb1 (Zn _) HG.out)).mono ?_
 rintro r w2 ⟨rfl,hb2⟩;have hq2:=hb2;have hX2:=hX.below hb2 hX.lt;have hY2:=hY.below hb2 hY.lt;have hb2':=Zb hb1 hb2;clear hX hY hb1 hb2;obtain ⟨x0,x1,x2⟩:=hX2.three;have y0:=hY2.cell 0;simp only [Yo,Yn] at y0
 go_wp2_with fail
 with_reducible refine (Qvx A B C Q n m k c d e L cq N ls w2 (HH.out.below hb2') hk (HT.out.below hb2') hL).mono ?_
 rintro r w3 ⟨hr,hb3⟩;have hb3':=Zb hb2' hb3;have hq3:=Zb hq2 hb3;have hX3:=hX2.below hb3 hX2.lt;have hY3:=hY2.below hb3 hY2.lt;clear x0 x1 x2 y0 hX2 hY2 hb2' hb3 hq2;obtain ⟨b,rfl,hGG⟩:=hr
 cases b with
 | false =>
  clear hGG
  go_wp2_with fail
  go_ret
  exact ⟨rfl,hb3'⟩
 | true =>
 have hmay:=hGG rfl;clear hGG;have HMAY:=Zh hmay;have hok:=hmay.small.ok;clear hmay;obtain ⟨x0,x1,x2⟩:=hX3.three;have y0:=hY3.cell 0;simp only [Yo,Yn] at y0
 by_cases hm0:m=0
 · have e0:((m:Int) == 0)=true:=by simp [hm0]
   clear hm0
   go_wp2_with fail
   go_ret
   exact ⟨rfl,hb3'⟩
 have e0:((m:Int) == 0)=false:=by simp;exact hm0
 go_wp2_with fail
 with_reducible refine (Qrl A B C Q n m k c d e L cq N ls w3 (HH.out.below hb3') hok (HT.out.below hb3') HMAY.out.part (Qit HMAY.out)).mono ?_
 unfold Qsq;rintro r w5 ⟨⟨g,o,CB,NC,cl,F,rfl,hNCe,hG5,hF5,hO5,hC5,hA5⟩,hb5⟩;have HNC:=Zh hNCe;have HB5:=Zh (Zb hb3' hb5);have HB3:=Zh hb3';have HQ5:=Zh (Zb hq3 hb5);have HX5:=Zh (hX3.below hb5 hX3.lt);have HY5:=Zh (hY3.below hb5 hY3.lt);have HG5:=Zh hG5.rd;have HO5:=Zh (hO5.le (Qaw _ _));have HC5:=Zh (show RdI w5 (some ⟨CB,0,none⟩) NC cl from ⟨hC5.1,fun i x hx=>by obtain ⟨b,o,e,h1⟩:=hC5.2 i x hx;exact ⟨b,o,e,Qaw _ _ _ _ h1⟩⟩)
 have HALL:=Zh hA5;have HGO:=Zh hG5;have HFO:=Zh hF5;have HOO:=Zh hO5;clear x0 x1 x2 y0 hX3 hY3 hb5 hb3' hNCe hG5 hF5 hO5 hC5 hA5 hq3;obtain ⟨x0,x1,x2⟩:=HX5.out.three;have y0:=HY5.out.cell 0;simp only [Yo,Yn] at y0;have hm4:m≤16384:=by rw [←HNA.out];exact hok.la
 obtain ⟨s,hsm,m0,m2,wr0,wu0⟩:=Qxu an m (by omega) (by omega) (by omega);obtain ⟨t,htm,m1,m3,wr1,wu1⟩:=Qxu bn m (by omega) (by omega) (by omega);obtain ⟨xs,hxs⟩:∃ xs,N.ar[s]?=some xs:=⟨_,Zg (by rw [HNA.out];exact hsm)⟩;obtain ⟨xt,hxt⟩:∃ xt,N.ar[t]?=some xt:=⟨_,Zg (by rw [HNA.out];exact htm)⟩;have HXS:=Zh hxs;have HXT:=Zh hxt;have HOK:=Zh hok;have HPP:=Zh (fun V (hV:Below w5.heap.size w5 V)=>Qfm V g o N ls (some ⟨CB,0,none⟩) NC NC cl s t xs xt (HG5.out.below hV) (HO5.out.below hV) (HC5.out.below hV) hok HMAY.out.part HALL.out ⟨Zn _,by have:=Qit HMAY.out;have:=HNC.out;omega⟩ (Qit HMAY.out) hxs hxt);have en0:¬m=0:=hm0;have en1:¬(m:Int)=0:=by omega
 have HSX:=Zh (show ∀ V,Below w5.heap.size w5 V→V.cell? ⟨w.heap.size,1,none⟩=some (.slice B m d) from fun V hV=>by rw [(HX5.out.below hV HX5.out.lt).cell];rfl)
 clear e0 x0 x1 x2 y0 hxs hxt hok hm0
 go_wp2_with fail
 refine wp_region_held_drew (S:=fun V=>Below w5.heap.size w5 V) (by kernel_rfl) (Zr _ _).drew (fun _=>?_);refine tz 0 45 ?_;refine tz 1 46 ?_;refine tz 2 47 ?_;refine tz 3 48 ?_;refine tz 4 49 ?_;refine tz 5 50 ?_;refine tz 6 51 ?_;refine tz 7 52 ?_;refine tz 8 53 ?_;refine tz 9 54 ?_;refine tz 10 55 ?_;refine tz 11 56 ?_;refine tz 12 15 ?_;refine tz 13 16 ?_;refine Zd ?_;clear HSX m0 m1 m2 m3 wr0 wr1 wu0 wu1 en0 en1;obtain ⟨w6,hw6⟩:∃ W,W=w5.drew:=⟨_,rfl⟩;rw [←hw6];have hb56:Below w5.heap.size w5 w6:=by rw [hw6];exact (Zr _ _).drew
 clear hw6
 go_wp2_with fail
 with_reducible refine (HPP.out w6 hb56).mono ?_
 rintro r w7 ⟨⟨v,A7,n7,c7,L7,k7,rfl,hp7,hr7,hn7,hc7,hm7,hq7⟩,hb7⟩;have hb57:=Zb hb56 hb7
 by_cases hn3:n7<3
 · have e3:(n7:Int)<3:=by omega
   have HB7:=Zh (Zb HB5.out hb57);clear hn3 hp7 hr7 hq7 hb56 hb7 hb57
   go_wp2_with fail
   go_ret
   exact ⟨rfl,Zb HB7.out Qag⟩
 have hv:v≠1152921504606846976:=fun e=>by
  obtain ⟨rfl,_⟩:=hp7.none_ e;have:=hr7.1;simp [nis] at this;omega
 obtain ⟨l,rfl,hrl,_⟩:=hp7.row hv;obtain ⟨D,rfl⟩:∃ D,n7=D+2:=⟨n7-2,by omega⟩;have e3:¬((D:Int)+2<3):=by omega
 have e4:¬(((D+2:Nat):Int)<3):=by omega
 obtain ⟨j,hjD,m0,m2,wr0,wu0⟩:=Qxu kn D (by omega) (by omega) (by omega);obtain ⟨q,hq⟩:∃ q,(s::l)[1+j]?=some q:=⟨_,Zg (by have h9:=hr7.1;rw [Qck] at h9;omega)⟩;obtain ⟨xb,xo,rfl,x0⟩:=hr7.2 (1+j) (q:Int) (Qcu hq)
 have HQA:=Zh (show ∃ y:Tri,N.ar[q]?=some y from by
  have h1:=hq;rw [Nat.add_comm,List.getElem?_cons_succ] at h1;obtain ⟨_,_,y,hy,_⟩:=hrl.mem (Zm h1);exact ⟨y,hy⟩)
 have HP7:=Zh hp7;have HV:=Zh hv;have HR7:=Zh hr7;have HB57:=Zh hb57;clear hp7 hv hr7 hrl hq hb56 hb7 hb57 hn3
 go_wp2_with fail
 (refine Qai ?_;intro w8 hw8)
 have hb78:Below w7.heap.size w7 w8:=by rw [hw8];exact Qag
 have hW8:Blk w8 w7.heap.size 80 #[.slice (some ⟨xb,xo,none⟩) (D+2) c7,.int .i64 v,.int .i64 k7]:=by rw [hw8];exact Blk.new _ _ _
 obtain ⟨gw,hgw⟩:∃ gw,gw=w7.heap.size:=⟨_,rfl⟩;rw [←hgw] at hW8 ⊢;have HGW:=Zh (show w5.heap.size≤gw from by rw [hgw];exact HB57.out.size)
 have HW8:=Zh hW8;have HB58:=Zh (Zb HB57.out hb78);have HR8:=Zh (show RdI w8 (some ⟨xb,xo,none⟩) (D+2) (nis (s::l)) from HR7.out.below hb78)
 have HSX:=Zh (show ∀ V,Below w8.heap.size w8 V→V.cell? ⟨gw,0,none⟩=some (.slice (some ⟨xb,xo,none⟩) (D+2) c7)∧V.cell? ⟨xb,xo+(1+j),none⟩=some (.int .i64 (q:Int)) from fun V hV=>⟨by rw [(HW8.out.below hV HW8.out.lt).cell];rfl,Zc (Zb hb78 hV) (Zn _) x0⟩)
 have f1:((D+2:Nat):Int)-2=(D:Int):=by omega
 have f2:(D:Int)+2-2=(D:Int):=by omega
 have f3:IntKind.i64.wrap (D:Int)=(D:Int):=IntWalk.i64_in _ (by omega);have f4:IntKind.i64.wrap (1+(j:Int))=1+(j:Int):=IntWalk.i64_in _ (by omega);have f5:(0:Int)≤1+(j:Int):=by omega
 have f6:1+(j:Int)<(D:Int)+2:=by omega
 have f7:1+(j:Int)<((D+2:Nat):Int):=by omega
 have f8:(1+(j:Int)).toNat=1+j:=by omega
 have en0:¬D=0:=by omega
 have en1:¬(D:Int)=0:=by omega
 clear hw8 hb78 hW8 hgw x0 e3 e4 HR7 HB57;refine wp_region_held_drew (S:=fun V=>Below w8.heap.size w8 V) (by kernel_rfl) (Zr _ _).drew (fun _=>?_);refine tz 0 72 ?_;refine tz 1 73 ?_;refine tz 2 74 ?_;refine tz 3 75 ?_;refine tz 4 76 ?_;refine tz 5 77 ?_;refine tz 6 78 ?_;refine tz 7 79 ?_;refine tz 8 80 ?_;refine tz 9 81 ?_;refine tz 10 82 ?_;refine tz 11 83 ?_;refine tz 12 19 ?_;refine Zd ?_;clear HSX m0 m2 wr0 wu0 f1 f2 f3 f4 f5 f6 f7 f8 en0 en1;obtain ⟨w9,hw9⟩:∃ W,W=w8.drew:=⟨_,rfl⟩;rw [←hw9];have hb89:Below w8.heap.size w8 w9:=by rw [hw9];exact (Zr _ _).drew
 have HB59:=Zh (Zb HB58.out hb89);have HW9:=Zh (HW8.out.below hb89 HW8.out.lt);have HX9:=Zh (HX5.out.below HB59.out HX5.out.lt);obtain ⟨y,hy⟩:=HQA.out;obtain ⟨ya,yb,yc⟩:=y;obtain ⟨hfS,hST⟩:=set_at N HMAY.out.small.few (u:=1152921504606846976) hy (by decide);have hnf:∀ b,F b→w.heap.size≤b:=fun b hb=>Yx HB3.out.size (HFO.out b hb).1
 have hne:0<w.heap.size:=Qaj HG.out
 have HDO:=Zh (do_setN g A B C n m k c d e (q:Int) 0 0 1152921504606846976 N _ [] 0 F (fun b=>b<w.heap.size) w9 (HGO.out.below HB59.out) (HH.out.le (Le.mskBelow (Zb HB5.out HB59.out) (fun b hb=>⟨fun hF=>by have:=hnf b hF;omega,hb⟩))) (Zc (Zb HB5.out HB59.out) (Zn _) HG.out) (fun b hb=>by have:=hnf b hb;omega) hfS hST);have HNF:=Zh hnf;have HY:=Zh hy;obtain ⟨x0,x1,x2⟩:=HX9.out.three;clear hw9 hb89 hfS hST hnf hne hy HW8 HB58
 go_wp2_with fail
 with_reducible refine HDO.out.mono ?_
 unfold DoN;rintro r wa ⟨A1,B1,C1,c1,d1,e1,F1,rfl,hga,hra,hfa,hfa1,hka,hza,hba⟩
 have hLe:Le (msk w5 (fun b=>¬F b∧w3.heap.size≤b)) wa:=fun x v hc=>by
  obtain ⟨⟨h1,_⟩,h2⟩:=Qat.1 hc;have h3:=Zc HB59.out (Zn _) h2;rw [World.cell?_of_block (hka _ h1 (Qaj h3))];exact h3
 have hoa:=(HOO.out.le hLe).alike (Qfv HY.out 1152921504606846976);have hgs:=(Qfv HY.out 1152921504606846976).gatesOf ls;have hok2:=HOK.out.setW HY.out (u:=1152921504606846976) (by decide)
 have hNC2:Qby (gatesOf (N.setW q ya yb 1152921504606846976).ar ls)≤1000000000:=by
  show Qby (gatesOf (N.ar.set q (ya,yb,1152921504606846976)) ls)≤1000000000
  rw [hgs];exact Qit HMAY.out
 obtain ⟨S2,hS2⟩:∃ S2,S2=Qby (gatesOf (N.setW q ya yb 1152921504606846976).ar ls):=⟨_,rfl⟩;have HS2:=Zh hS2;have HAL:=Zh (fun V (hV:Below wa.heap.size wa V)=>all_ok V g o (N.setW q ya yb 1152921504606846976) ls (hga.rd.below hV) hok2 (hoa.below hV) HMAY.out.part hNC2);obtain ⟨xs2,hxs2⟩:∃ x,(N.setW q ya yb 1152921504606846976).ar[s]?=some x:=⟨_,Zg (by show s<(N.ar.set q (ya,yb,1152921504606846976)).length;rw [Yq,HNA.out];exact hsm)⟩
 obtain ⟨xt2,hxt2⟩:∃ x,(N.setW q ya yb 1152921504606846976).ar[t]?=some x:=⟨_,Zg (by show t<(N.ar.set q (ya,yb,1152921504606846976)).length;rw [Yq,HNA.out];exact htm)⟩
 have HP2:=Zh (fun CB2_ V cl2 (hV:Below wa.heap.size wa V) (hc:RdI V (some ⟨CB2_,0,none⟩) S2 cl2) (hA:Qcp (N.setW q ya yb 1152921504606846976) ls cl2)=>Qfm V g o (N.setW q ya yb 1152921504606846976) ls (some ⟨CB2_,0,none⟩) S2 S2 cl2 s t xs2 xt2 (hga.rd.below hV) (hoa.below hV) hc hok2 HMAY.out.part hA ⟨Zn _,by omega⟩ hNC2 hxs2 hxt2);have HXS2:=Zh hxs2;have HOK2:=Zh hok2;have HNT:=Zh (show Qbu wa A1 B1 C1 n m k (N.setW q ya yb 1152921504606846976) from hra.le (Qaw _ _))
 have HBA:=Zh ((Zb HB5.out HB59.out).trans (hba w.heap.size (Yx HB5.out.size HB59.out.size) HNF.out));have HWA:=Zh (show Blk wa gw 80 #[.slice (some ⟨xb,xo,none⟩) (D+2) c7,.int .i64 v,.int .i64 k7] from (hka gw (fun hF=>by have:=(HFO.out gw hF).2;have:=HGW.out;omega) HW9.out.lt).trans HW9.out)
 clear hLe hoa hgs hok2 hNC2 hS2 hxs2 hxt2 hra hfa hfa1 hka hza hba hga HDO x0 x1 x2
 go_wp2_with fail
 (refine Qad ?_;intro wb hwb)
 have hbb:Below wa.heap.size wa wb:=by rw [hwb];exact Qag
 have HNB:=Zh (show Blk wb wa.heap.size 26 #[.slice A1 n c1,.slice B1 m d1,.slice C1 k e1] by rw [hwb];exact Blk.new _ _ _)
 have HBB:=Zh hbb;clear hwb;obtain ⟨gn,hgn⟩:∃ gn,gn=wa.heap.size:=⟨_,rfl⟩;rw [←hgn] at HNB ⊢;clear hgn;with_reducible refine (HAL.out wb hbb).mono ?_
 unfold AllR;rintro r wc ⟨CB2,cl2,rfl,_,hCl,hlen,_,hdone,hbc⟩;have HIA:=Zh (hdone.all hlen);rw [←HS2.out] at hlen ⊢;have HBC:=Zh (Zb hbb hbc);have HCC:=Zh (show RdI wc (some ⟨CB2,0,none⟩) S2 cl2 from ⟨hlen,fun i x hx=>⟨CB2,0,rfl,by rw [hCl.cell,Yz,Yo];exact Qge hx⟩⟩)
 clear hCl hlen hdone hbb HAL
 go_wp2_with fail
 with_reducible refine (HP2.out CB2 wc cl2 HBC.out HCC.out HIA.out).mono ?_
 rintro r wd ⟨⟨v9,A9,n9,c9,L9,k9,rfl,hp9,hr9,hn9,hc9,hm9,_⟩,hbd⟩;have HBD:=Zh (Zb HBC.out hbd);have HBCD:=Zh (Zb hbc hbd);have HP9:=Zh hp9;have HR9:=Zh hr9;clear hp9 hr9 hbc hbd HP2 HCC HIA
 go_wp2_with fail
 (refine Qai ?_;intro we hwe)
 have hbe:Below wd.heap.size wd we:=by rw [hwe];exact Qag
 have HVE:=Zh (show Blk we wd.heap.size 80 #[.slice A9 n9 c9,.int .i64 v9,.int .i64 k9] by rw [hwe];exact Blk.new _ _ _)
 obtain ⟨gv,hgv⟩:∃ gv,gv=wd.heap.size:=⟨_,rfl⟩;rw [←hgv] at HVE ⊢;have HBE:=Zh (Zb HBD.out hbe);have HRE:=Zh (show RdI we A9 n9 (nis L9) from HR9.out.below hbe)
 have HWE:=Zh (HWA.out.below HBE.out HWA.out.lt);have HNE:=Zh (HNB.out.below (Zb HBCD.out hbe) HNB.out.lt)
 have HSX:=Zh (show ∀ V,Below we.heap.size we V→V.cell? ⟨gv,0,none⟩=some (.slice A9 n9 c9)∧V.cell? ⟨gv,1,none⟩=some (.int .i64 v9)∧V.cell? ⟨gw,1,none⟩=some (.int .i64 v)∧V.cell? ⟨gn,0,none⟩=some (.slice A1 n c1)∧V.cell? ⟨gn,1,none⟩=some (.slice B1 m d1)∧V.cell? ⟨gn,2,none⟩=some (.slice C1 k e1) from fun V hV=>by
  have h1:=HVE.out.below hV HVE.out.lt;have h2:=HWE.out.below hV HWE.out.lt;have h3:=HNE.out.below hV HNE.out.lt;exact ⟨Zq h1,Zq h1,Zq h2,Zq h3,Zq h3,Zq h3⟩)
 obtain ⟨hle,hsq⟩:=Qxc HOK.out HY.out (by rw [HNA.out];exact hsm) HP7.out.dist HP9.out.dist;have HFIN:=Zh (fun V (hV:Below we.heap.size we V)=>Zb HBA.out (Zb HBE.out hV));clear hwe hbe hgv
 by_cases hv9:v9=1152921504606846976
 · subst hv9
   obtain ⟨rfl,rfl⟩:=HP9.out.none_ rfl;obtain rfl:n9=0:=by rw [←HRE.out.1];rfl
   have HPL:=Zh (fun V (hV:Below we.heap.size we V)=>Qsb A9 0 c9 (nis []) (q:Int) V (HRE.out.below hV) (by omega) (by simp [nis]));clear hsq;refine wp_region_held_drew (S:=fun V=>Below we.heap.size we V) (by kernel_rfl) (Zr _ _).drew (fun _=>?_);refine tz 0 105 ?_;refine tz 1 106 ?_;refine tz 2 107 ?_;refine tz 3 108 ?_;refine tz 4 109 ?_;refine tz 5 110 ?_;refine tz 6 111 ?_;refine tz 7 112 ?_;refine tz 8 113 ?_;refine tz 9 114 ?_;refine tz 10 115 ?_;refine tz 11 116 ?_;refine tz 12 117 ?_;refine Zk 13 (fun K hK=>?_);go_simp;with_reducible refine (HPL.out _ (Zr _ _).drew).mono ?_
   rintro r wf ⟨rfl,rfl⟩;go_simp;refine hK.out _ _ (Zr _ _).drew (fun _=>?_);clear hK K;refine tz 14 119 ?_;refine tz 15 120 ?_;refine tz 16 121 ?_;refine tz 17 122 ?_;refine tz 18 123 ?_;refine tz 19 124 ?_;refine tz 20 125 ?_;refine tz 21 126 ?_;refine tz 22 127 ?_;refine tz 23 128 ?_;refine tz 24 129 ?_;refine tz 25 130 ?_;refine tz 26 131 ?_;refine tw 27 132 ?_;refine tw 28 133 ?_;refine tw 29 134 ?_;refine tw 30 135 ?_;refine tw 31 136 ?_;refine tw 32 137 ?_;refine tw 33 138 ?_;refine tz 34 139 ?_;refine tz 35 140 ?_;refine tz 36 10 ?_;refine Zd ?_;clear HSX
   go_wp2_with fail
   go_ret
   exact ⟨rfl,HFIN.out _ (Zr _ _).drew⟩
 obtain ⟨l9,rfl,hrl9,_⟩:=HP9.out.row hv9;have hv1:(v9 == 1152921504606846976)=false:=by simpa using hv9
 have hv2:decide (v9=1152921504606846976)=false:=by simpa using hv9
 have HPL:=Zh (fun V (hV:Below we.heap.size we V)=>Qsb A9 n9 c9 (nis (s::l9)) (q:Int) V (HRE.out.below hV) hn9 (by
  intro h;obtain ⟨q2,h1,h2⟩:=List.mem_map.1 h;have h3:q2=q:=by omega
  subst h3
  rcases List.mem_cons.1 h1 with h4|h4
  · exact hsq hv9 h4.symm
  · exact row_shut HY.out hrl9 h4))
 have HCO:=Zh (fun V (hV:Below we.heap.size we V)=>Qtl V A1 B1 C1 n m k c1 d1 e1 _ A9 n9 c9 s t v9 l9 (HNT.out.below (Zb HBE.out hV)) HOK2.out ⟨xs2,HXS2.out,HP9.out.dist.fw_ hv9 HXS2.out⟩ hrl9 (HP9.out.dist.fin HOK2.out hv9).2 (HRE.out.below hV) hn9);clear hrl9 hsq hv9;refine wp_region_held_drew (S:=fun V=>Below we.heap.size we V) (by kernel_rfl) (Zr _ _).drew (fun _=>?_);refine tz 0 105 ?_;refine tz 1 106 ?_;refine tz 2 107 ?_;refine tz 3 108 ?_;refine tz 4 109 ?_;refine tz 5 110 ?_;refine tz 6 111 ?_;refine tz 7 112 ?_;refine tz 8 113 ?_;refine tz 9 114 ?_;refine tz 10 115 ?_;refine tz 11 116 ?_;refine tz 12 117 ?_;refine Zk 13 (fun K hK=>?_);go_simp;with_reducible refine (HPL.out _ (Zr _ _).drew).mono ?_
 rintro r wf ⟨rfl,rfl⟩;go_simp;refine hK.out _ _ (Zr _ _).drew (fun _=>?_);clear hK K;refine tz 14 119 ?_;refine tz 15 120 ?_;refine tz 16 121 ?_;refine tz 17 122 ?_;refine tz 18 123 ?_;refine tz 19 124 ?_;refine tz 20 125 ?_;refine tw 21 126 ?_;refine tw 22 127 ?_;refine tw 23 128 ?_;refine tw 24 129 ?_;refine tz 25 130 ?_;refine tz 26 131 ?_;refine tz 27 132 ?_;refine tz 28 133 ?_;refine tz 29 134 ?_;refine tz 31 136 ?_;refine tz 32 137 ?_;refine Zk 30 (fun K hK=>?_);go_simp;with_reducible refine (HCO.out _ (Zr _ _).drew).mono ?_
 rintro r wg ⟨rfl,hbg⟩;have hbg':Below we.heap.size we wg:=(Zr _ _).drew.trans hbg;go_simp;refine hK.out _ _ hbg' (fun _=>?_);clear hK K;refine tz 33 138 ?_;refine tz 34 139 ?_;refine tz 35 140 ?_;refine tz 36 10 ?_;refine Zd ?_;clear HSX hbg
 go_wp2_with fail
 go_ret
 exact ⟨rfl,HFIN.out _ hbg'⟩
end Go.Proofs.YtdheeddnkdhfeaaGreatDoor
