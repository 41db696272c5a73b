/- Parts of the proof: Pn, MeQ, MeK, Open, OpN. -/
import Derived.Test.YthoagdpakddbdaaGreatDoorL24
import Derived.Test.YthoagdpakddbdaaGreatDoorRows
import Derived.ProofKit
import Derived.OpenShut
import Derived.Deep.Slices
import Derived.SizedLaws
import Derived.ChangeArms
namespace Go.Proofs.YthoagdpakddbdaaGreatDoor
open Go.RowKit Go.Proofs.Tryz
attribute [local go_sem ↓] Go.wp_at_zero Go.wp_at_succ
def RdCs (w:World)(A:Option Addr)(n:Nat) (ls:List (List Chn)):Prop :=
 ls.length=n∧∀ i l,ls[i]?=some l→∃ b o A' n' c',A=some ⟨b,o,none⟩∧w.cell? ⟨b,o+i,none⟩=some (.slice A' n' c')∧Qig w A' n' l∧n'≤c'∧c'≤9223372036854775807
theorem RdCs.at_ {w:World}{A:Option Addr}{n i:Nat} {ls:List (List Chn)} (h:RdCs w A n ls) (hi:i<n):∃ b o A' n' c' l,A=some ⟨b,o,none⟩∧ls[i]?=some l∧w.cell? ⟨b,o+i,none⟩=some (.slice A' n' c')∧Qig w A' n' l∧n'≤c'∧c'≤9223372036854775807:=by
 have hl:i<ls.length:=by rw [h.1];exact hi
 obtain ⟨b,o,A',n',c',e,hc⟩:=h.2 i _ (Zg hl);exact ⟨b,o,A',n',c',_,e,Zg hl,hc⟩
theorem Qed.entP {N M:Qai}(hs:Qed N M) {ls:List (List Int)} {EL:List Ent} (h:EntP N ls EL):EntP M ls EL:=fun k e hk=>by
 obtain ⟨l,x,s,t,he⟩:=h k e hk;exact ⟨l,x,s,t,he.kin hs.kin⟩
theorem RdW.set {w:World}{A:Option Addr}{n g i:Nat}{t:TypeId} {ps:List (ByteArray×Int)} (h:RdW w A n ps) (hb:Blk w g t #[.slice none 0 0,.int .i64 0]) (v:Value) (k:Nat) (u:Value):RdW ((w.setCell ⟨g,i,none⟩ v).setCell ⟨g,k,none⟩ u) A n ps :=
 ⟨h.1,fun j x hx=>by
  obtain ⟨b,o,e,h1,h2⟩:=h.2 j x hx
  have hne:b≠g:=fun e2=>by
   subst e2;rw [hb.cell] at h1
   rcases hq:o+j*2 with _|_|q
   · rw [hq] at h1;simp at h1
   · rw [hq] at h1;simp at h1
   · rw [hq] at h1;simp at h1
  refine ⟨b,o,e,?_,?_⟩
  · rw [World.cell?_setCell_other _ _ _ _ (by intro h;simp only [Addr.mk.injEq] at h;omega),World.cell?_setCell_other _ _ _ _ (by intro h;simp only [Addr.mk.injEq] at h;omega)];exact h1
  · rw [World.cell?_setCell_other _ _ _ _ (by intro h;simp only [Addr.mk.injEq] at h;omega),World.cell?_setCell_other _ _ _ _ (by intro h;simp only [Addr.mk.injEq] at h;omega)];exact h2⟩
structure PlF where
 w0:World
 g:Nat
 o:Nat
 xr:Nat
 NC:Nat
 n:Nat
 m:Nat
 k:Nat
 L:Nat
 cq:Nat
 cg:Nat
 ce:Nat
 Q:Option Addr
 G0:Option Addr
 AE:Option Addr
 x0:Value
 x1:Value
 x2:Value
 EL:List Ent
 N0:Qai
 ls:List (List Int)
 G:Nat→Prop
structure PlS (K:PlF) (V:World) (F:Nat→Prop) (Mg M:Qai) (A B C:Option Addr) (c d e B2:Nat) (cl:List Int):Prop where
 md:MdS V F K.G K.g K.o Mg K.ls K.NC
 bel:Below K.w0.heap.size K.w0 V
 fl:∀ b,F b→K.w0.heap.size+2≤b
 gl:∀ b,K.G b→K.w0.heap.size+2≤b
 bx:Blk V K.w0.heap.size 26 #[.slice A K.n c,.slice B K.m d,.slice C K.k e]
 py:Blk V (K.w0.heap.size+1) 29 #[.slice K.Q K.L K.cq]
 nt:Qbc (msk V (fun b=>¬F b∧b≠K.w0.heap.size)) A B C K.n K.m K.k M
 sh:Qed K.N0 M
 ok:Qav M
 ov:Blk V K.xr 38 #[K.x0,K.x1,K.x2,.slice K.Q K.L K.cq,.slice K.G0 K.L K.cg,.slice K.AE K.EL.length K.ce]
 ovF:¬F K.xr∧K.w0.heap.size+2≤K.xr
 rg:RdG (msk V (fun b=>¬F b∧b≠K.w0.heap.size)) K.G0 K.L (gatesOf K.N0.ar K.ls)
 re:Rds (msk V (fun b=>¬F b∧b≠K.w0.heap.size)) 4 K.AE K.EL.length (Qeh K.EL)
 cb:Blk V B2 2 (Qad cl).toArray
 cbF:¬F B2∧K.w0.heap.size+2≤B2
 al:Qfd M K.ls cl
section
variable {K:PlF} {V V':World} {F:Nat→Prop} {Mg M:Qai} {A B C:Option Addr} {c d e B2:Nat} {cl:List Int}
theorem PlS.below (h:PlS K V F Mg M A B C c d e B2 cl)(hb:Below V.heap.size V V'):PlS K V' F Mg M A B C c d e B2 cl :=
 ⟨h.md.below hb,Zb h.bel (hb.mono (by have:=h.bel.size;omega)),h.fl,h.gl,h.bx.below hb h.bx.lt,h.py.below hb h.py.lt,h.nt.le (Qax.below hb).msk,h.sh,h.ok,h.ov.below hb h.ov.lt,h.ovF,h.rg.le (Qax.below hb).msk,h.re.le_ (Qax.below hb).msk,h.cb.below hb h.cb.lt,h.cbF,h.al⟩
theorem PlS.work {F':Nat→Prop}{Mg':Qai}(h:PlS K V F Mg M A B C c d e B2 cl)(hm:MdS V' F' K.G K.g K.o Mg' K.ls K.NC)(hF:∀ b,F' b→F b∨V.heap.size≤b) (hk:Qax (fun b=>¬F b) V V') (hb:Below K.w0.heap.size V V'):PlS K V' F' Mg' M A B C c d e B2 cl:=by
 have hz0:=h.bel.size
 have key:∀ b,b<V.heap.size→¬F b→¬F' b:=fun b h1 h2 h3=>by
  rcases hF b h3 with h4|h4
  · exact h2 h4
  · omega
 have hle:Le (msk V (fun b=>¬F b∧b≠K.w0.heap.size)) (msk V' (fun b=>¬F' b∧b≠K.w0.heap.size)):=fun a v hc=>by
  obtain ⟨h1,h2⟩:=Qao.1 hc;refine Qao.2 ⟨⟨key _ (Qae h2) h1.1,h1.2⟩,?_⟩;rw [World.cell?_of_block (hk _ h1.1 (Qae h2))];exact h2
 refine ⟨hm,h.bel.trans hb,fun b h1=>?_,h.gl,hk.blkM h.bx (fun h1=>by have:=h.fl _ h1;omega),hk.blkM h.py (fun h1=>by have:=h.fl _ h1;omega),h.nt.le hle,h.sh,h.ok,hk.blkM h.ov h.ovF.1,⟨key _ h.ov.lt h.ovF.1,h.ovF.2⟩,h.rg.le hle,h.re.le_ hle,hk.blkM h.cb h.cbF.1,⟨key _ h.cb.lt h.cbF.1,h.cbF.2⟩,h.al⟩
 rcases hF b h1 with h2|h2
 · exact h.fl b h2
 · have:=h.py.lt
   omega
theorem PlS.put {M2:Qai}{A2 B2' C2:Option Addr}{c2 d2 e2 B3:Nat}{cl2:List Int}(h:PlS K V F Mg M A B C c d e B2 cl) (hn:Qbc (msk V (fun b=>¬F b∧b≠K.w0.heap.size)) A2 B2' C2 K.n K.m K.k M2) (hs:Qed K.N0 M2) (hok:Qav M2) (hc:Blk V B3 2 (Qad cl2).toArray) (hcF:¬F B3∧K.w0.heap.size+2≤B3) (hal:Qfd M2 K.ls cl2) :
 PlS K (((V.setCell ⟨K.w0.heap.size,0,none⟩ (.slice A2 K.n c2)).setCell ⟨K.w0.heap.size,1,none⟩ (.slice B2' K.m d2)).setCell ⟨K.w0.heap.size,2,none⟩ (.slice C2 K.k e2)) F Mg M2 A2 B2' C2 c2 d2 e2 B3 cl2:=by
 obtain ⟨W,hW⟩:∃ W,W=((V.setCell ⟨K.w0.heap.size,0,none⟩ (.slice A2 K.n c2)).setCell ⟨K.w0.heap.size,1,none⟩ (.slice B2' K.m d2)).setCell ⟨K.w0.heap.size,2,none⟩ (.slice C2 K.k e2):=⟨_,rfl⟩;rw [←hW]
 have hk:Qax (fun b=>b≠K.w0.heap.size) V W:=by
  rw [hW];exact ((Qax.set V _ 0 _ (by simp)).trans (Qax.set _ _ 1 _ (by simp)) (by simp [World.setCell])).trans (Qax.set _ _ 2 _ (by simp)) (by simp [World.setCell])
 have hz:W.heap.size=V.heap.size:=by rw [hW];simp [World.setCell]
 have hbx:Blk W K.w0.heap.size 26 #[.slice A2 K.n c2,.slice B2' K.m d2,.slice C2 K.k e2]:=by
  rw [hW];have:=((h.bx.set_ 0 (.slice A2 K.n c2)).set_ 1 (.slice B2' K.m d2)).set_ 2 (.slice C2 K.k e2)
  simpa using this
 have hbl:Below K.w0.heap.size K.w0 W:=by
  rw [hW];exact ((h.bel.setCell (Zn _) _).setCell (Zn _) _).setCell (Zn _) _
 have hle:Le (msk V (fun b=>¬F b∧b≠K.w0.heap.size)) (msk W (fun b=>¬F b∧b≠K.w0.heap.size)):=(hk.mono (fun b hb=>hb.2)).msk;exact ⟨h.md.keep (K:=fun b=>b=K.w0.heap.size) hk (by omega) (fun b hb e=>by have:=h.fl b hb;omega) (fun b hb e=>by have:=h.gl b hb;omega),hbl,h.fl,h.gl,hbx,hk.blkM h.py (by simp),hn.le hle,hs,hok,hk.blkM h.ov (by have:=h.ovF.2;omega),h.ovF,h.rg.le hle,h.re.le_ hle,hk.blkM hc (by have:=hcF.2;omega),hcF,hal⟩
end
def DoX (K:PlF)(w:World)(F:Nat→Prop)(M:Qai)(A B C:Option Addr)(c d e B2:Nat)(cl:List Int)(l:List Chn) (ps:List (ByteArray×Int)) (c0:Int) (r:Ending) (w':World):Prop :=
 ∃ CA n9 c9 kk v F',r=.returned (.tuple #[.slice CA n9 c9,.int .i64 kk,v])∧ErrV w' v ps c0∧PlS K w' F' (if c0=0 then Qdq M l else M) M A B C c d e B2 cl∧Qax (fun b=>¬F b) w w'∧w.heap.size≤w'.heap.size∧(∀ b,F' b→F b∨w.heap.size≤b) ∧
  (c0≠0→n9=0∧kk=0)∧(c0=0→∃ B' cl',CA=some ⟨B',0,none⟩∧n9=K.NC∧c9=K.NC∧kk=((Qlv (tb K.ls (Qdl M K.ls l)):Nat):Int)∧w.heap.size≤B'∧Blk w' B' 2 (Qad cl').toArray∧Qfd (Qdq M l) K.ls cl'∧¬F' B')
theorem doX_ok (K:PlF)(w:World)(F:Nat→Prop)(M:Qai)(A B C:Option Addr)(c d e B2:Nat)(cl:List Int)(h:PlS K w F M M A B C c d e B2 cl)(l:List Chn) (ps:List (ByteArray×Int)) (c0:Int) (hck:Ck M l ps c0) (OA:Option Addr) (oc:Nat) (ho:RdI (msk w (fun b=>¬F b)) OA K.NC cl)
 (RA:Option Addr) (rn rc B1:Nat) (hl:Own w B1 83 5 RA rn rc (Qcf l)) (hB1:∀ b,F b→b<B1) (hrn:rn≤9223372036854775807) :
 Calls prog 19 #[.pointer (some ⟨K.g,0,none⟩),.pointer (some ⟨K.o,0,none⟩),.slice OA K.NC oc,.slice RA rn rc] w (DoX K w F M A B C c d e B2 cl l ps c0):=by
 by_cases hc0:c0=0
 · subst hc0
   obtain ⟨hl256,hbat⟩:=hck.ok;have hlm:Qig (msk w (fun b=>¬F b)) RA rn l:=hl.rdCm (fun b h1 _ h2=>by have:=hB1 b h2;omega);have hs:=Qdj hbat;have:=do_ok w K.g K.o F M K.ls RA OA rn rc oc l cl h.md.go.gr h.md.go.ovF h.md.part (by rw [←h.md.nc];exact h.md.n9) (by rw [←h.md.nc];exact ho) h.al hlm hbat hl256;rw [←h.md.nc] at this;refine this.mono ?_;rintro r w' ⟨B',cl',F',e,hz,hBk,hA,hF',hG',hK,hsz,hBel⟩;rw [←h.md.nc] at e;have hmd:MdS w' F' K.G K.g K.o (Qdq M l) K.ls K.NC:=⟨h.md.go.step hs.kin hG' hF' hK hsz,by rw [hs.kin.vs];exact h.md.part,by rw [hs.kin.al.gatesOf];exact h.md.nc,h.md.n9⟩;refine ⟨_,_,_,_,_,F',e,.inl ⟨rfl,rfl⟩,?_,hK,hsz,fun b hb=>(hF' b hb).1,fun h=>absurd rfl h,fun _=>⟨B',cl',rfl,rfl,rfl,rfl,hz,hBk,hA,fun hb=>by have:=(hF' _ hb).2;omega⟩⟩;rw [if_pos rfl];exact h.work hmd (fun b hb=>(hF' b hb).1) hK (hBel _ h.bel.size (fun b hb=>by have:=h.fl b hb;omega))
 · have:=do_bad w K.g K.o M K.ls RA OA rn rc oc l h.md.go.gr.rd h.md.go.gr.ok h.md.go.ovR hl.rds.rdC hrn ps c0 hck hc0
   rw [←h.md.nc] at this;refine this.mono ?_;rintro r w' ⟨v,e,hch,hb⟩;refine ⟨_,_,_,_,_,F,e,.inr ⟨hc0,hch⟩,?_,Qax.below hb,hb.size,fun b hb=>.inl hb,fun _=>⟨rfl,rfl⟩,fun h=>absurd h hc0⟩;rw [if_neg hc0];exact h.below hb
end Go.Proofs.YthoagdpakddbdaaGreatDoor
namespace Go.Proofs.YthoagdpakddbdaaGreatDoor
open Go.RowKit Go.Extern.Stop Go.Stop Go.Extern Go.Proofs.Tryz
attribute [local go_sem ↓] Go.wp_at_zero Go.wp_at_succ
theorem Qmu {P:Program}{ops:Array Oper}{Q:Exit→Act→World→Prop}{md:Region.Mode}{S:World→Prop}{G:Value→Value→World→Prop}{L listed:Array Bool}{f0 fuel:Nat}{a:Act}{w:World}(d1 d2:Option Tmp)(hf:fuel=f0+2)
 (hA:∀ C:Act→World→Prop,Shut (∀ v1 v2 w',G v1 v2 w'→C ((a.put d1 v1).put d2 v2) w')→wpC P md ops Q S L C 2 listed a w)
 (hB:∀ v1 v2 w',G v1 v2 w'→wpAnyH P md ops Q S f0 L ((a.put d1 v1).put d2 v2) w'):wpAnyH P md ops Q S fuel listed a w:=by
 subst hf;exact Qkx (C:=fun a' w'=>wpAnyH P md ops Q S f0 L a' w') (fun _ _ h=>h) 2 listed a w (hA _ hB)
theorem ErrV.belowK {w w':World}{v:Value} {ps:List (ByteArray×Int)} {c0:Int} (h:ErrV w v ps c0) (hb:Below w.heap.size w w'):ErrV w' v ps c0:=by
 rcases h with h|⟨h1,h2⟩
 · exact .inl h
 · exact .inr ⟨h1,h2.below hb⟩
def WnG (w:World) (ps:List (ByteArray×Int)) (c0:Int) (v1 v2:Value) (w':World):Prop :=
 ∃ A4 n4 m4 g8,v1=.agg #[.slice A4 n4 m4,.int .i64 c0]∧v2=.pointer (some ⟨g8,0,none⟩)∧(c0≠0→RdW w' A4 n4 ps)∧n4≤1000000∧w.heap.size≤g8∧Blk w' g8 48 #[.slice none 0 0,.int .i64 0]∧Below w.heap.size w w'
def NtG (w:World)(n m k:Nat)(N:Qai)(v1 v2:Value)(w':World):Prop :=
 ∃ V A C c1 c2 c3 g9,v1=.agg #[.slice V n c1,.slice A m c2,.slice C k c3]∧v2=.pointer (some ⟨g9,0,none⟩)∧Qbc (msk w' (fun b=>w.heap.size≤b∧b≠g9)) V A C n m k N∧w.heap.size≤g9∧Blk w' g9 26 #[.slice none 0 0,.slice none 0 0,.slice none 0 0]∧Below w.heap.size w w'
set_option maxRecDepth 20000 in
set_option maxHeartbeats 8000000 in
theorem Qlq (A B C Q:Option Addr)(n m k c d e L cq:Nat)(N:Qai) (ls:List (List Int)) (CA:Option Addr) (cn cc:Nat) (bl:List (List Chn)) (w:World) (h:Qbc w A B C n m k N) (hk:k≤9223372036854775807) (hq:RdT w Q L ls) (hL:L≤9223372036854775807) (hc:RdCs w CA cn bl) (hcc:cn≤cc∧cc≤9223372036854775807) (hg:w.cell? ⟨0,0,none⟩=some Qmv) :
 Calls prog 4 #[.agg #[.slice A n c,.slice B m d,.slice C k e],.agg #[.slice Q L cq],.slice CA cn cc] w fun r w'=>r=.returned (.bool true)∧Below w.heap.size w w':=by
 have HC:=Zh hc;clear hc;have HH:=Zh h;have HT:=Zh hq;have HG:=Zh hg;have HNA:=Zh (show N.ar.length=m from h.2.1.1)
 have HNV:=Zh (show N.vs.length=n from h.1.1)
 clear h hq hg
 go_enter func4,ntmps4
 go_wp2_with fail
 (refine Qac ?_;intro w1 hw1)
 have hb1:Below w.heap.size w w1:=by rw [hw1];exact Qaf
 have hX:Blk w1 w.heap.size 26 #[.slice A n c,.slice B m d,.slice C k e]:=by rw [hw1];exact Qaz
 have hY:Blk w1 (w.heap.size+1) 29 #[.slice Q L cq]:=by rw [hw1];exact Qaz
 clear hw1;with_reducible refine (Qvy w1 (Zc hb1 (Zn _) HG.out)).mono ?_
 rintro r w2 ⟨rfl,hb2⟩;have hq2:=hb2;have hX2:=hX.below hb2 hX.lt;have hY2:=hY.below hb2 hY.lt;have hb2':=Zb hb1 hb2;clear hX hY hb1 hb2;obtain ⟨x0,x1,x2⟩:=hX2.three;have y0:=hY2.cell 0;simp only [Yo,Yn] at y0
 go_wp2_with fail
 with_reducible refine (Qxu A B C Q n m k c d e L cq N ls w2 (HH.out.below hb2') hk (HT.out.below hb2') hL).mono ?_
 rintro r w3 ⟨hr,hb3⟩;have hb3':=Zb hb2' hb3;have hq3:=Zb hq2 hb3;have hX3:=hX2.below hb3 hX2.lt;have hY3:=hY2.below hb3 hY2.lt;clear x0 x1 x2 y0 hX2 hY2 hb2' hb3 hq2;obtain ⟨b,rfl,hGG⟩:=hr
 cases b with
 | false =>
  clear hGG
  go_wp2_with fail
  go_ret
  exact ⟨rfl,hb3'⟩
 | true =>
 have hmay:=hGG rfl;clear hGG;have HMAY:=Zh hmay;have hok:=hmay.small.ok;have hS9:=sumA_few hmay;have HB3:=Zh hb3';have HX3:=Zh hX3;have HY3:=Zh hY3;clear hmay hb3' hq3 hX3 hY3;obtain ⟨x0,x1,x2⟩:=HX3.out.three;have y0:=HY3.out.cell 0;simp only [Yo,Yn] at y0
 by_cases h6:6<cn
 · have i1:(6:Int)<(cn:Int):=by omega
   go_wp2_with fail
   go_ret
   exact ⟨rfl,HB3.out⟩
 have i1:¬(6:Int)<(cn:Int):=by omega
 go_wp2_with fail
 have HSX:=Zh (show ∀ V,Below w3.heap.size w3 V→V.cell? ⟨w.heap.size,0,none⟩=some (.slice A n c)∧V.cell? ⟨w.heap.size,1,none⟩=some (.slice B m d)∧V.cell? ⟨w.heap.size,2,none⟩=some (.slice C k e)∧V.cell? ⟨w.heap.size+1,0,none⟩=some (.slice Q L cq) from fun V hV=>by
  obtain ⟨z0,z1,z2⟩:=(HX3.out.below hV HX3.out.lt).three;have q0:=(HY3.out.below hV HY3.out.lt).cell 0;simp only [Yo,Yn] at q0;exact ⟨z0,z1,z2,q0⟩)
 refine wp_region_held_drew (S:=fun V=>Below w3.heap.size w3 V) (by kernel_rfl) (Zr _ _).drew (fun _=>?_);clear x0 x1 x2 y0;refine tz 0 29 ?_;refine tz 2 31 ?_;refine tz 3 32 ?_;refine Zk 1 (fun K hK=>?_);go_simp;with_reducible refine (Qnr A B C n m k c d e N w3.drew (HH.out.below HB3.out.drew) hok).mono ?_
 rintro r w5 ⟨g,rfl,hG5,hb5⟩;have hb5':Below w3.heap.size w3 w5:=(Zr _ _).drew.trans hb5;have HG5:=Zh hG5;have hz5:=HB3.out.size;clear hb5 hG5;go_simp;refine hK.out _ _ hb5' (fun _=>?_);clear hK K;refine Zk 4 (fun K hK=>?_);go_simp;with_reducible refine (Qpz A B C Q n m k c d e L cq N ls w5 (HH.out.below (Zb HB3.out hb5')) hok (HT.out.below (Zb HB3.out hb5')) HMAY.out.part).mono ?_
 rintro r w6 ⟨o,rfl,hO6,hb6⟩;have hz3x:w.heap.size+2≤w3.heap.size:=HY3.out.lt;have hb5z:=hb5'.size;obtain ⟨F,G,hGO,hFL,hGL⟩:∃ F G,GO w6 F G g o N ls∧(∀ b,F b→w.heap.size+2≤b)∧(∀ b,G b→w.heap.size+2≤b):=⟨_,_,⟨HG5.out.below hb6,hO6,fun b h1 h2=>by omega,fun b h=>h.2⟩,fun b h=>Yx hz3x h.1,fun b h=>by have:=h.1;omega⟩;have HGL:=Zh hGL;have HS6:=Zh (show MdS w6 F G g o N ls (Qbr (gatesOf N.ar ls)) from ⟨hGO,HMAY.out.part,rfl,hS9⟩)
 have HFL:=Zh hFL;have hb6':=Zb hb5' hb6;have HB6:=Zh (Zb HB3.out hb6');have HX6:=Zh (HX3.out.below hb6' HX3.out.lt);have HY6:=Zh (HY3.out.below hb6' HY3.out.lt);clear hO6 hb6 hGO hFL hGL hb5z HG5 hz5 hz3x;go_simp;refine hK.out _ _ hb6' (fun _=>?_);clear hK K;refine tz 5 7 ?_;refine tz 6 8 ?_;refine Zd ?_;clear HSX hb5' hb6' HX3 HY3 HB3;obtain ⟨NC,hNC⟩:∃ NC,NC=Qbr (gatesOf N.ar ls):=⟨_,rfl⟩;rw [←hNC] at HS6;have HNC:=Zh hNC;clear hNC;obtain ⟨hl6,hlv,har⟩:=may_lv HMAY.out;have hrl:ls.length=L:=HT.out.1;have HRL:=Zh hrl;have HF6:=Zh (fun b hb=>HS6.out.go.gr.lt (b:=b) hb);have HLV:=Zh hlv;have HL6:=Zh hl6;have HOK:=Zh hok;obtain ⟨x0,x1,x2⟩:=HX6.out.three;have y0:=HY6.out.cell 0;simp only [Yo,Yn] at y0;clear hlv hrl hl6 hok
 go_wp2_with fail
 with_reducible refine (Qpc A B C Q n m k c d e L cq N ls w6 (HH.out.below HB6.out) HOK.out (HT.out.below HB6.out) HMAY.out.part hS9).mono ?_
 unfold Qsn;rintro r w7 ⟨G0,cg,AE,ce,EL,rfl,hG7,hE7,hEl,hEP,hb7⟩;obtain ⟨NE,hNE⟩:∃ NE,NE=EL.length:=⟨_,rfl⟩;rw [←hNE];have HNE:=Zh hNE;clear hNE x0 x1 x2 y0
 go_wp2_with fail
 (refine Qac ?_;intro w8 hw8)
 have hb78:Below w7.heap.size w7 w8:=by rw [hw8];exact Qaf
 have hR8:Blk w8 w7.heap.size 38 #[.slice A n c,.slice B m d,.slice C k e,.slice Q L cq,.slice G0 L cg,.slice AE NE ce]:=by rw [hw8];exact Blk.new _ _ _
 have hb68:=Zb hb7 hb78;with_reducible refine (allQ_ok w8 F G g o N ls NC (HS6.out.below hb68)).mono ?_
 unfold AllQ;rintro r w9 ⟨B0,wl,rfl,hz0,hB0,hA0,hb9⟩;have hz2:w.heap.size+2≤w6.heap.size:=HY6.out.lt;have hz67:=hb7.size;have hz78:=hb78.size;have hb69:=Zb hb68 hb9;obtain ⟨xr,hxr⟩:∃ x,x=w7.heap.size:=⟨_,rfl⟩;rw [←hxr] at hR8 ⊢;have HSZ:∀ b,F b→b<w6.heap.size:=HF6.out
 have hleM:Le (msk w7 (fun b=>w6.heap.size≤b)) (msk w9 (fun b=>¬F b∧b≠w.heap.size)):=fun a v hc=>by
  obtain ⟨h1,h2⟩:=Qao.1 hc;exact Qao.2 ⟨⟨fun hF=>by have:=HSZ _ hF;omega,by omega⟩,Zc (Zb hb78 hb9) (Zn _) h2⟩
 have hntM:Qbc (msk w9 (fun b=>¬F b∧b≠w.heap.size)) A B C n m k N:=HH.out.le (fun a v hc=>by
  have h1:=Qae hc;exact Qao.2 ⟨⟨fun hF=>by have:=HFL.out _ hF;omega,by omega⟩,Zc (Zb HB6.out hb69) (Zn _) hc⟩)
 obtain ⟨K,hK9⟩:∃ K:PlF,K=⟨w,g,o,xr,NC,n,m,k,L,cq,cg,ce,Q,G0,AE,.slice A n c,.slice B m d,.slice C k e,EL,N,ls,G⟩:=⟨_,rfl⟩;have HK:=Zh hK9
 have HP9:=Zh (show PlS K w9 F N N A B C c d e B0 wl by
  rw [hK9];exact ⟨HS6.out.below hb69,Zb HB6.out hb69,HFL.out,HGL.out,HX6.out.below hb69 HX6.out.lt,HY6.out.below hb69 HY6.out.lt,hntM,Qed.refl N,HOK.out,by rw [←HNE.out];exact hR8.below hb9 hR8.lt,⟨fun (hF:F xr)=>by have:=HSZ xr hF;omega,by show w.heap.size+2≤xr;omega⟩,hG7.le hleM,hE7.le_ hleM,hB0,⟨fun hF=>by have:=HSZ _ hF;omega,by show w.heap.size+2≤B0;omega⟩,hA0⟩)
 have EG:=Zh (show K.g=g by rw [hK9])
 have EO:=Zh (show K.o=o by rw [hK9])
 have EN:=Zh (show K.NC=NC by rw [hK9])
 have ES:=Zh (show K.ls=ls by rw [hK9])
 have HEP:=Zh hEP;have hn9:NC≤1000000000:=by rw [HNC.out];exact hS9
 have hNEC:NE=NC:=by rw [HNE.out,hEl,HNC.out]
 have HNEC:=Zh hNEC;clear hK9 hG7 hE7 hEl hEP hb7 hb78 hR8 hb68 hz0 hB0 hA0 hb9 hz2 hz67 hz78 hb69 hxr HSZ hleM hntM HS6 HX6 HY6 HB6 HF6 HFL HGL hNEC hw8
 go_wp2_with fail
 go_loopw [10,11] (fun z q V=>∃ (i:Nat) (F2:Nat→Prop) (M:Qai) (A' B' C':Option Addr) (c' d' e' B2:Nat) (cl:List Int),i≤cn∧q=.int .i64 i∧z=.slice (some ⟨B2,0,none⟩) NC NC∧PlS K V F2 M M A' B' C' c' d' e' B2 cl) (fun _ q _=>cn-(intOf q).toNat)
 case atStart=>exact ⟨0,F,N,A,B,C,c,d,e,B0,wl,Nat.zero_le _,rfl,rfl,HP9.out⟩
 case round =>
  clear HP9;obtain ⟨i,F2,M,A',B',C',c',d',e',B2,cl,hi,rfl,rfl,hP⟩:=hrel;have HP:=Zh hP;have hbw:Below w.heap.size w wr:=by have:=hP.bel;rw [HK.out] at this;exact this
  clear hP
  by_cases hlt:i<cn
  rotate_left
  · obtain rfl:i=cn:=by omega
    have i3:¬((i:Int)<(i:Int)):=by omega
    go_wp2_with fail
    go_ret
    exact ⟨rfl,hbw⟩
  obtain ⟨cb,co,RA,rn,rc,l,rfl,hl,q1,q2,q3,q4⟩:=HC.out.at_ hlt;have HRW:=Zh (show ∀ V,Below w.heap.size w V→V.cell? ⟨cb,co+i,none⟩=some (.slice RA rn rc)∧Qig V RA rn l from fun V hV=>⟨Zc hV (Zn _) q1,q2.le (Le.below hV)⟩)
  clear hl q1 q2;have q1:=(HRW.out wr hbw).1;have i3:(i:Int)<(cn:Int):=by omega
  have i4:(0:Int)≤(i:Int):=by omega
  by_cases h300:300<rn
  · have i5:(300:Int)<(rn:Int):=by omega
    go_wp2_with fail
    go_ret
    exact ⟨rfl,hbw⟩
  have i5:¬(300:Int)<(rn:Int):=by omega
  have hclN:cl.length=NC:=by
   have h1:=HP.out.al.1;have h2:=HP.out.md.nc;rw [EN.out] at h2;exact h1.trans h2.symm
  have HCLN:=Zh hclN;obtain ⟨v1,hv1⟩:∃ v1,v1=wr.alloc (.cells #[] 2):=⟨_,rfl⟩;have HV1:=Zh hv1;have hbv1:Below wr.heap.size wr v1:=by rw [hv1];exact Qaf
  have hown1:Own v1 wr.heap.size 2 1 (some ⟨wr.heap.size,0,none⟩) 0 0 []:=by rw [hv1];exact Own.lit wr #[] 0 (Zn _) (by omega) rfl
  have hrd1:Rds v1 1 (some ⟨B2,0,none⟩) NC (Qad cl):=((HP.out.cb.below hbv1 HP.out.cb.lt).rdI hclN).rdsI;have hsz1:wr.heap.size≤v1.heap.size:=hbv1.size;have HBV:=Zh hbv1;have HBW:=Zh hbw;clear hv1 hbv1 hclN hbw
  go_wp2_with (at_builtin;rw [←HV1.out];with_reducible refine Qas rfl (.tmp 58) (.tmp 59) 30 rfl 2 _ 1 8 Qir underlying30 rfl (by omega) rfl rfl hown1 hrd1 (Qam _) (by omega) (by omega) hsz1 ?_)
  intro A3 c3 w2 ho2 hg2 _;have hb2:=Zo HBV.out hg2 hown1 hsz1
  try simp only [Yz,List.nil_append] at ho2
  try simp only [Yz]
  have HO2:=Zh ho2;have HB2:=Zh hb2;have hbw2:=Zb HBW.out hb2;clear hown1 hrd1 hsz1 hg2 ho2 hb2 HV1 HBV q1;have q1:=(HRW.out w2 hbw2).1;have HTO:=Zh (to19_any RA rn rc l w2 (HRW.out w2 hbw2).2 (by omega));obtain ⟨ps,c0,hck⟩:=ck_ex M l;have HCK:=Zh hck;clear hck hbw2
  go_wp2_with fail
  with_reducible refine HTO.out.mono ?_
  rintro r w3 ⟨A9,c9,rfl,ho3,hb3⟩;have hFl:∀ b,F2 b→b<wr.heap.size:=fun b hb=>HP.out.md.go.gr.lt hb
  have hz22:=HB2.out.size;have HP3:=Zh ((HP.out.below HB2.out).below hb3);have HZW3:=Zh (show w.heap.size+2≤w3.heap.size by have:=HP3.out.py.lt;rw [HK.out] at this;exact this)
  have HOM:=Zh (show RdI (msk w3 (fun b=>¬F2 b)) A3 NC cl from RdK.msk (HO2.out.below hb3).rds.rdI (fun b hb hF=>by have h1:=(HO2.out.lt b hb).1;have h2:=hFl b hF;omega))
  have HD:=Zh (show Calls prog 19 #[.pointer (some ⟨g,0,none⟩),.pointer (some ⟨o,0,none⟩),.slice A3 NC c3,.slice A9 rn c9] w3 (DoX K w3 F2 M A' B' C' c' d' e' B2 cl l ps c0) by
   have:=doX_ok K w3 F2 M A' B' C' c' d' e' B2 cl HP3.out l ps c0 HCK.out A3 c3 (by rw [EN.out];exact HOM.out) A9 rn c9 w2.heap.size ho3 (fun b hb=>by have h2:=hFl b hb;omega) (by omega);rw [EG.out,EO.out,EN.out] at this;exact this)
  clear ho3 hb3 hFl hz22 HP HO2 HB2 HTO q1
  go_wp2_with fail
  with_reducible refine HD.out.mono ?_
  unfold DoX;rintro r w4 ⟨CA4,n9,c94,kk,v,F4,rfl,hev,hP4,hK4,hz4,hF4,hbad,hgood⟩;have HEV:=Zh hev;have HP4:=Zh hP4;have HO4:=Zh (show RdI w4 A3 NC cl from (HOM.out.le hK4.msk).le (Qbh _ _))
  have HBAD:=Zh hbad;have HGOOD:=Zh hgood;clear hev hP4 hK4 hz4 hF4 hbad hgood HOM HD HP3;have hbw4:Below w.heap.size w w4:=by have:=HP4.out.bel;rw [HK.out] at this;exact this
  have hbx4:Blk w4 w.heap.size 26 #[.slice A' n c',.slice B' m d',.slice C' k e']:=by have:=HP4.out.bx;rw [HK.out] at this;exact this
  have HNT4:=Zh (show Qbc (msk w4 (fun b=>¬F4 b∧b≠w.heap.size)) A' B' C' n m k M by have:=HP4.out.nt;rw [HK.out] at this;exact this)
  have HCB:=Zh (fun (V:World) (hV:Below w4.heap.size w4 V)=>Qje A' B' C' n m k c' d' e' M RA rn rc l V ((HNT4.out.le (Qbh _ _)).below hV) (HRW.out V (Zb hbw4 hV)).2 (by omega) ps c0 HCK.out)
  have HSX:=Zh (show ∀ V,Below w4.heap.size w4 V→V.cell? ⟨w.heap.size,0,none⟩=some (.slice A' n c')∧V.cell? ⟨w.heap.size,1,none⟩=some (.slice B' m d')∧V.cell? ⟨w.heap.size,2,none⟩=some (.slice C' k e')∧V.cell? ⟨cb,co+i,none⟩=some (.slice RA rn rc) from fun V hV=>by
   obtain ⟨z0,z1,z2⟩:=(hbx4.below hV hbx4.lt).three;exact ⟨z0,z1,z2,(HRW.out V (Zb hbw4 hV)).1⟩)
  have HB4:=Zh hbw4;have HX4:=Zh hbx4;clear hbw4 hbx4
  go_wp2_with fail
  refine wp_region_held_drew (S:=fun V=>Below w4.heap.size w4 V) (by kernel_rfl) (Zr _ _).drew (fun _=>?_);refine tz 0 74 ?_;refine tz 1 75 ?_;refine tz 2 76 ?_;refine tz 3 77 ?_;refine tz 4 78 ?_;obtain ⟨W0,q⟩:∃ X,X=w4.drew:=⟨_,rfl⟩;have hbW:Below w4.heap.size w4 W0:=by rw [q];exact (Zr _ _).drew
  have HZW:=Zh (show W0.heap.size=w4.heap.size by rw [q];rfl)
  rw [←q];clear q;refine Qmu (G:=WnG w4 ps c0) (L:=#[true,true,true,true,true,true,true,false]) (f0:=1) (some 79) (some 16) rfl (fun C0 hC=>?_) ?_
  · skip
    refine Qan (rs:=[5,6]) (by kernel_rfl) (by simp) ?_;refine Qdv.cons (o:=_) rfl (fun K1 hK=>?_) (Qdv.cons (o:=_) rfl (fun K1 hK=>?_) (Qdv.nil))
    · go_simp
      with_reducible refine (HCB.out W0 hbW).mono ?_
      unfold CkbP;rintro r w5 ⟨⟨A4,n4,m4,rfl,hp5,_,hn4⟩,hb5⟩;have hb45:=Zb hbW hb5;go_simp;refine hK.out _ _ hb45 (fun _=>?_);clear hK K1
      try simp only [Act.put,Yi,Yj,Yk]
      refine Qan (rs:=[6]) (by kernel_rfl) (by simp) ?_;refine Qdv.cons (o:=_) rfl (fun K1 hK=>?_) (Qdv.nil);go_simp;have hba:Below w5.heap.size w5 (w5.alloc (.cells #[.slice none 0 0,.int .i64 0] 48)):=Qaf;refine hK.out _ _ (Zb hb45 hba) (fun _=>?_);clear hK K1
      try simp only [Act.put,Yi,Yj,Yk]
      exact ⟨by kernel_rfl,hC.out _ _ _ ⟨A4,n4,m4,w5.heap.size,rfl,rfl,fun h=>(hp5 h).below hba,hn4,hb45.size,Blk.new _ _ _,Zb hb45 hba⟩⟩
    · go_simp
      have hba:Below W0.heap.size W0 (W0.alloc (.cells #[.slice none 0 0,.int .i64 0] 48)):=Qaf;have hB5:Blk (W0.alloc (.cells #[.slice none 0 0,.int .i64 0] 48)) W0.heap.size 48 #[.slice none 0 0,.int .i64 0]:=Blk.new _ _ _;have hb4a:=Zb hbW hba;refine hK.out _ _ hb4a (fun _=>?_);clear hK K1
      try simp only [Act.put,Yi,Yj,Yk]
      obtain ⟨W1,q⟩:∃ X,X=W0.alloc (.cells #[.slice none 0 0,.int .i64 0] 48):=⟨_,rfl⟩;rw [←q] at hba hB5 hb4a ⊢;clear q;refine Qan (rs:=[5]) (by kernel_rfl) (by simp) ?_;refine Qdv.cons (o:=_) rfl (fun K1 hK=>?_) (Qdv.nil);go_simp;with_reducible refine (HCB.out W1 hb4a).mono ?_
      unfold CkbP;rintro r w5 ⟨⟨A4,n4,m4,rfl,hp5,_,hn4⟩,hb5⟩;have hb45:=Zb hb4a hb5;go_simp;refine hK.out _ _ hb45 (fun _=>?_);clear hK K1
      try simp only [Act.put,Yi,Yj,Yk]
      exact ⟨by kernel_rfl,hC.out _ _ _ ⟨A4,n4,m4,W0.heap.size,rfl,rfl,hp5,hn4,by have:=HZW.out;omega,hB5.below hb5 hB5.lt,hb45⟩⟩
  rintro v79 v16 w5 ⟨A4,n4,m4,g8,rfl,rfl,hp5,hn4,hg8,hB8,hb5⟩;simp only [Act.put,Yi,Yj,Yk];obtain ⟨d0,d1,f0,f1⟩:=hB8.two;have hb6:Below w4.heap.size w4 ((w5.setCell ⟨g8,0,none⟩ (.slice A4 n4 m4)).setCell ⟨g8,1,none⟩ (.int .i64 c0)):=(hb5.setCell (by exact hg8) _).setCell (by exact hg8) _;refine Zk 7 (fun K hK=>?_);go_simp;refine hK.out _ _ hb6 (fun _=>?_);clear hK K;refine Zd ?_;obtain ⟨w6,hw6⟩:∃ X,X=(w5.setCell ⟨g8,0,none⟩ (.slice A4 n4 m4)).setCell ⟨g8,1,none⟩ (.int .i64 c0):=⟨_,rfl⟩;rw [←hw6] at hb6 ⊢
  have hB6:Blk w6 g8 48 #[.slice A4 n4 m4,.int .i64 c0]:=by
   have:=(hB8.set_ 0 (.slice A4 n4 m4)).set_ 1 (.int .i64 c0);rw [←hw6] at this
   simpa using this
  have HR6:=Zh (show c0≠0→RdW w6 A4 n4 ps from fun h=>by rw [hw6];exact (hp5 h).set hB8 _ _ _)
  have HB6:=Zh hB6;have HP6:=Zh (HP4.out.below hb6);have H46:=Zh hb6;have HV6:=Zh (ErrV.belowK HEV.out hb6);have HO6:=Zh (HO4.out.below hb6);have HBW6:=Zh (Zb HB4.out hb6);have HN4:=Zh hn4;have HNT6:=Zh (show Qbc (msk w6 (fun b=>¬F4 b∧b≠w.heap.size)) A' B' C' n m k M by have:=HP6.out.nt;rw [HK.out] at this;exact this)
  clear hw6 hb6 hB6 hB8 hp5 hn4 d0 d1 f0 f1 hg8 hb5 HSX HCB HNT4 HEV HP4 HO4 HX4 HB4 hbW HZW;obtain ⟨d0,d1,_,_⟩:=HB6.out.two
  go_wp2_with fail
  with_reducible refine (Qui HV6.out HR6.out (Zc HBW6.out (Zn _) HG.out) (by have:=HN4.out;omega)).mono ?_
  rintro r w7 ⟨rfl,hb7⟩;have HP7:=Zh (HP6.out.below hb7);have H47:=Zh (Zb H46.out hb7);have HO7:=Zh (HO6.out.below hb7);have HB7:=Zh (HB6.out.below hb7 HB6.out.lt);have HBW7:=Zh (Zb HBW6.out hb7);clear hb7 HP6 HO6 HB6 HBW6 HV6 HR6 HNT6 d0 d1
  go_wp2_with fail
  with_reducible refine (Qdw A3 (some ⟨B2,0,none⟩) NC NC c3 NC cl cl w7 HO7.out (HP7.out.cb.rdI HCLN.out) hn9 hn9).mono ?_
  rintro r w8 ⟨rfl,kd,hw8⟩;rw [decide_eq_true rfl];have hb8:Below w7.heap.size w7 w8:=by rw [hw8];exact Qaf
  have HP8:=Zh (HP7.out.below hb8);have H48:=Zh (Zb H47.out hb8);have HB8:=Zh (HB7.out.below hb8 HB7.out.lt);have HBW8:=Zh (Zb HBW7.out hb8);clear hw8 hb8 HP7 HO7 HB7 HBW7;obtain ⟨d0,d1,_,_⟩:=HB8.out.two;have hbx8:Blk w8 w.heap.size 26 #[.slice A' n c',.slice B' m d',.slice C' k e']:=by have:=HP8.out.bx;rw [HK.out] at this;exact this
  have HNT8:=Zh (show Qbc (msk w8 (fun b=>¬F4 b∧b≠w.heap.size)) A' B' C' n m k M by have:=HP8.out.nt;rw [HK.out] at this;exact this)
  have HX8:=Zh hbx8;obtain ⟨x0,x1,x2⟩:=hbx8.three;have x8l:=hbx8.lt;clear hbx8
  by_cases hc0:c0=0
  rotate_left
  · obtain ⟨rfl,rfl⟩:=HBAD.out hc0
    have e1:(c0 != 0)=true:=by simpa using hc0
    have HPM:=Zh (show PlS K w8 F4 M M A' B' C' c' d' e' B2 cl by have:=HP8.out;rw [if_neg hc0] at this;exact this)
    have HS6:=Zh (Qtq g A' B' C' n m k c' d' e' M w8 (by have:=HPM.out.md.go.gr.rd;rw [EG.out] at this;exact this) (HNT8.out.le (Qbh _ _)) HPM.out.ok);clear HBAD HGOOD HP8 hc0
    go_wp2_with fail
    with_reducible refine HS6.out.mono ?_
    rintro r w9 ⟨rfl,hb9⟩;have HP9:=Zh (HPM.out.below hb9);clear hb9 x0 x1 x2 d0 d1 HS6
    go_wp2_with fail
    go_roundw
    case rel=>exact ⟨i+1,F4,M,A',B',C',c',d',e',B2,cl,by omega,by go_num,rfl,HP9.out⟩
    case measure=>simp [intOf];omega
  subst hc0;obtain ⟨Bc,dl,hCA,hn9',hc9',hkk,hzB,hBc,hAc,hFB⟩:=HGOOD.out rfl;rw [EN.out] at hn9' hc9';rw [ES.out] at hkk hAc;subst hCA
  replace hn9':=hn9'.symm
  replace hc9':=hc9'.symm
  subst hn9';subst hc9';obtain ⟨hl256,hbat⟩:=HCK.out.ok;have HBAT:=Zh hbat;have HPM:=Zh (show PlS K w8 F4 (Qdq M l) M A' B' C' c' d' e' B2 cl by have:=HP8.out;rw [if_pos rfl] at this;exact this)
  have HBC:=Zh (hBc.below H48.out hBc.lt);have HAC:=Zh hAc;have HFB:=Zh hFB;have HZB:=Zh hzB;have hok2:=Qpo HPM.out.ok hbat;have HOK2:=Zh hok2;have HF8:=Zh (show ∀ b,F4 b→b<w8.heap.size from fun b hb=>HPM.out.md.go.gr.lt hb)
  have HW8:=Zh (show w.heap.size<w8.heap.size from x8l)
  have HW4:=Zh (show w.heap.size+2≤w3.heap.size from HZW3.out)
  have HS2:=Zh (show Qed N (Qdq M l) by have:=HPM.out.sh;rw [HK.out] at this;exact this.trans (Qdj hbat))
  have HPA:=Zh (show Qbw (Qdq M l).vs.length ls by have:=HPM.out.md.part;rw [ES.out] at this;exact this)
  have HPB:=Zh (show Qbw M.vs.length ls by have:=HPA.out;rw [(Qdj hbat).kin.vs] at this;exact this)
  obtain ⟨hw,hhw⟩:∃ x,x=Qlv (tb ls (fun i q=>netB M (Qdq M l) (ls.getD i []) q)):=⟨_,rfl⟩;have hkk2:kk=(hw:Int):=by rw [hkk,hhw,tch_net HPM.out.ok HPB.out hbat]
  have HHW:=Zh hhw;subst hkk2;clear HBAD HGOOD HP8 hkk hzB hBc hAc hFB hbat hok2 hhw HCK H46 H47;have HAP:=Zh (fun (V:World) (hV:Below w8.heap.size w8 V)=>Qrr A' B' C' n m k c' d' e' M RA rn rc l V ((HNT8.out.le (Qbh _ _)).below hV) HPM.out.ok (HRW.out V (Zb HBW8.out hV)).2 HBAT.out hl256)
  have HSX:=Zh (show ∀ V,Below w8.heap.size w8 V→V.cell? ⟨w.heap.size,0,none⟩=some (.slice A' n c')∧V.cell? ⟨w.heap.size,1,none⟩=some (.slice B' m d')∧V.cell? ⟨w.heap.size,2,none⟩=some (.slice C' k e')∧V.cell? ⟨cb,co+i,none⟩=some (.slice RA rn rc) from fun V hV=>by
   obtain ⟨z0,z1,z2⟩:=(HX8.out.below hV HX8.out.lt).three;exact ⟨z0,z1,z2,(HRW.out V (Zb HBW8.out hV)).1⟩)
  clear x0 x1 x2
  go_wp2_with fail
  clear d0 d1;refine wp_region_held_drew (S:=fun V=>Below w8.heap.size w8 V) (by kernel_rfl) (Zr _ _).drew (fun _=>?_);refine tz 0 106 ?_;refine tz 1 107 ?_;refine tz 2 108 ?_;refine tz 3 109 ?_;refine tz 4 110 ?_;obtain ⟨W0,q⟩:∃ X,X=w8.drew:=⟨_,rfl⟩;have hbW:Below w8.heap.size w8 W0:=by rw [q];exact (Zr _ _).drew
  have HZW:=Zh (show W0.heap.size=w8.heap.size by rw [q];rfl)
  rw [←q];clear q;refine Qmu (G:=NtG w8 n m k (Qdq M l)) (L:=#[true,true,true,true,true,true,true,false]) (f0:=1) (some 111) (some 17) rfl (fun C0 hC=>?_) ?_
  · skip
    refine Qan (rs:=[5,6]) (by kernel_rfl) (by simp) ?_;refine Qdv.cons (o:=_) rfl (fun K1 hK=>?_) (Qdv.cons (o:=_) rfl (fun K1 hK=>?_) (Qdv.nil))
    · go_simp
      with_reducible refine (HAP.out W0 hbW).mono ?_
      unfold AppQ;rintro r w9 ⟨VA,VB,VC,va,vb,vc,rfl,hrn,hb9⟩;have hb89:=Zb hbW hb9;go_simp;refine hK.out _ _ hb89 (fun _=>?_);clear hK K1
      try simp only [Act.put,Yi,Yj,Yk]
      refine Qan (rs:=[6]) (by kernel_rfl) (by simp) ?_;refine Qdv.cons (o:=_) rfl (fun K1 hK=>?_) (Qdv.nil);go_simp;have hba:Below w9.heap.size w9 (w9.alloc (.cells #[.slice none 0 0,.slice none 0 0,.slice none 0 0] 26)):=Qaf;refine hK.out _ _ (Zb hb89 hba) (fun _=>?_);clear hK K1
      try simp only [Act.put,Yi,Yj,Yk]
      exact ⟨by kernel_rfl,hC.out _ _ _ ⟨VA,VB,VC,va,vb,vc,w9.heap.size,rfl,rfl,hrn.le (fun a v hc=>by
       obtain ⟨h1,h2⟩:=Qao.1 hc;have h3:=Qae h2;have h4:=HZW.out;exact Qao.2 ⟨⟨by omega,by omega⟩,Zc hba (Zn _) h2⟩),hb89.size,Blk.new _ _ _,Zb hb89 hba⟩⟩
    · go_simp
      have hba:Below W0.heap.size W0 (W0.alloc (.cells #[.slice none 0 0,.slice none 0 0,.slice none 0 0] 26)):=Qaf;have hB5:Blk (W0.alloc (.cells #[.slice none 0 0,.slice none 0 0,.slice none 0 0] 26)) W0.heap.size 26 #[.slice none 0 0,.slice none 0 0,.slice none 0 0]:=Blk.new _ _ _;have hb4a:=Zb hbW hba;refine hK.out _ _ hb4a (fun _=>?_);clear hK K1
      try simp only [Act.put,Yi,Yj,Yk]
      obtain ⟨W1,q⟩:∃ X,X=W0.alloc (.cells #[.slice none 0 0,.slice none 0 0,.slice none 0 0] 26):=⟨_,rfl⟩;have HZ1:=Zh (show W1.heap.size=W0.heap.size+1 by rw [q];simp)
      rw [←q] at hba hB5 hb4a ⊢;clear q;refine Qan (rs:=[5]) (by kernel_rfl) (by simp) ?_;refine Qdv.cons (o:=_) rfl (fun K1 hK=>?_) (Qdv.nil);go_simp;with_reducible refine (HAP.out W1 hb4a).mono ?_
      unfold AppQ;rintro r w9 ⟨VA,VB,VC,va,vb,vc,rfl,hrn,hb9⟩;have hb89:=Zb hb4a hb9;go_simp;refine hK.out _ _ hb89 (fun _=>?_);clear hK K1
      try simp only [Act.put,Yi,Yj,Yk]
      exact ⟨by kernel_rfl,hC.out _ _ _ ⟨VA,VB,VC,va,vb,vc,W0.heap.size,rfl,rfl,hrn.le (Qay (fun b hb=>by have:=HZW.out;have:=HZ1.out;exact ⟨by omega,by omega⟩)),by have:=HZW.out;omega,hB5.below hb9 hB5.lt,hb89⟩⟩
  rintro v111 v17 w9 ⟨VA,VB,VC,va,vb,vc,g9,rfl,rfl,hrn,hg9,hB9,hb9⟩;simp only [Act.put,Yi,Yj,Yk];obtain ⟨d0,d1,d2⟩:=hB9.three;have f0:=hB9.frozen 0;have f1:=hB9.frozen 1;have f2:=hB9.frozen 2;have hb10:Below w8.heap.size w8 (((w9.setCell ⟨g9,0,none⟩ (.slice VA n va)).setCell ⟨g9,1,none⟩ (.slice VB m vb)).setCell ⟨g9,2,none⟩ (.slice VC k vc)):=((hb9.setCell (by exact hg9) _).setCell (by exact hg9) _).setCell (by exact hg9) _;refine Zk 7 (fun K hK=>?_);go_simp;refine hK.out _ _ hb10 (fun _=>?_);clear hK K;refine Zd ?_;obtain ⟨w10,hw10⟩:∃ X,X=((w9.setCell ⟨g9,0,none⟩ (.slice VA n va)).setCell ⟨g9,1,none⟩ (.slice VB m vb)).setCell ⟨g9,2,none⟩ (.slice VC k vc):=⟨_,rfl⟩;rw [←hw10] at hb10 ⊢
  have hB10:Blk w10 g9 26 #[.slice VA n va,.slice VB m vb,.slice VC k vc]:=by
   have:=((hB9.set_ 0 (.slice VA n va)).set_ 1 (.slice VB m vb)).set_ 2 (.slice VC k vc);rw [←hw10] at this
   simpa using this
  have hk10:Qax (fun b=>b≠g9) w9 w10:=by
   rw [hw10];exact ((Qax.set w9 _ 0 _ (by simp)).trans (Qax.set _ _ 1 _ (by simp)) (by simp [World.setCell])).trans (Qax.set _ _ 2 _ (by simp)) (by simp [World.setCell])
  have HRN:=Zh (hrn.le (hk10.mono (fun b hb=>hb.2)).msk);have HP10:=Zh (HPM.out.below hb10);have HB10:=Zh hB10;have HBC10:=Zh (HBC.out.below hb10 HBC.out.lt);have HBW10:=Zh (Zb HBW8.out hb10);have HG9:=Zh hg9;clear hw10 hb10 hB10 hk10 hrn hB9 hb9 d0 d1 d2 f0 f1 f2 hg9 HSX HAP HPM HBC HNT8 HX8 HB8 HBW8 hbW HZW x8l;obtain ⟨d0,d1,d2⟩:=HB10.out.three;have HSM:=Zh (Qtq g VA VB VC n m k va vb vc (Qdq M l) w10 (by have:=HP10.out.md.go.gr.rd;rw [EG.out] at this;exact this) (HRN.out.le (Qbh _ _)) HOK2.out)
  go_wp2_with fail
  with_reducible refine HSM.out.mono ?_
  rintro r w11 ⟨rfl,hb11⟩;have HP11:=Zh (HP10.out.below hb11);have HB11:=Zh (HB10.out.below hb11 HB10.out.lt);have HBC11:=Zh (HBC10.out.below hb11 HBC10.out.lt);have HBW11:=Zh (Zb HBW10.out hb11);have HRN11:=Zh (HRN.out.le (Qax.below hb11).msk);clear hb11 HP10 HB10 HBC10 HBW10 HRN d0 d1 d2 HSM;obtain ⟨d0,d1,d2⟩:=HB11.out.three;have hov:Blk w11 xr 38 #[.slice A n c,.slice B m d,.slice C k e,.slice Q L cq,.slice G0 L cg,.slice AE NE ce]:=by have:=HP11.out.ov;rw [HK.out] at this;rw [HNE.out];exact this
  have o0:w11.cell? ⟨xr,0,none⟩=some (.slice A n c):=Zq hov;have o1:w11.cell? ⟨xr,1,none⟩=some (.slice B m d):=Zq hov;have o2:w11.cell? ⟨xr,2,none⟩=some (.slice C k e):=Zq hov;have o3:w11.cell? ⟨xr,3,none⟩=some (.slice Q L cq):=Zq hov;have o4:w11.cell? ⟨xr,4,none⟩=some (.slice G0 L cg):=Zq hov;have o5:w11.cell? ⟨xr,5,none⟩=some (.slice AE NE ce):=Zq hov;have hgt:gatesOf (Qdq M l).ar ls=gatesOf N.ar ls:=by rw [HS2.out.kin.al.gatesOf]
  have HPL:=Zh (Qnv VA VB VC Q G0 AE n m k va vb vc L cq cg ce EL (.slice A n c) (.slice B m d) (.slice C k e) (Qdq M l) ls w11 (HRN11.out.le (Qbh _ _)) HOK2.out (HT.out.below HBW11.out) HPA.out
   (by have:=HP11.out.rg;rw [HK.out] at this;rw [hgt];exact this.le (Qbh _ _)) (by have:=HP11.out.re;rw [HK.out] at this;exact this.le_ (Qbh _ _)) (by rw [hgt,←HNE.out,HNEC.out,HNC.out]) (HS2.out.entP HEP.out) (by rw [hgt,←HNC.out];exact hn9))
  rw [←HNE.out] at HPL;clear hov hgt
  go_wp2_with fail
  with_reducible refine HPL.out.mono ?_
  rintro r w12 ⟨A5,c5,pl,rfl,hpl,hap,_,hb12⟩;obtain rfl:dl=pl:=HAC.out.uniq hap;have hdl:dl.length=NC:=by rw [HAC.out.1,HS2.out.kin.al.gatesOf,HNC.out]
  rw [hdl] at hpl;rw [hdl];have HDL:=Zh hdl;have HPL2:=Zh hpl;have HP12:=Zh (HP11.out.below hb12);have HB12:=Zh (HB11.out.below hb12 HB11.out.lt);have HBC12:=Zh (HBC11.out.below hb12 HBC11.out.lt);have HBW12:=Zh (Zb HBW11.out hb12);have HRN12:=Zh (HRN11.out.le (Qax.below hb12).msk);clear hb12 hpl hap hdl HP11 HB11 HBC11 HBW11 HRN11 HPL d0 d1 d2 o0 o1 o2 o3 o4 o5
  go_wp2_with fail
  with_reducible refine (Qdw (some ⟨Bc,0,none⟩) A5 NC NC NC c5 dl dl w12 (HBC12.out.rdI HDL.out) HPL2.out hn9 hn9).mono ?_
  rintro r w13 ⟨rfl,kd2,hw13⟩;rw [decide_eq_true rfl];have hb13:Below w12.heap.size w12 w13:=by rw [hw13];exact Qaf
  have HP13:=Zh (HP12.out.below hb13);have HB13:=Zh (HB12.out.below hb13 HB12.out.lt);have HBC13:=Zh (HBC12.out.below hb13 HBC12.out.lt);have HBW13:=Zh (Zb HBW12.out hb13);have HRN13:=Zh (HRN12.out.le (Qax.below hb13).msk);clear hb13 hw13 HP12 HB12 HBC12 HBW12 HRN12 HPL2;obtain ⟨d0,d1,d2⟩:=HB13.out.three;have hbx:Blk w13 w.heap.size 26 #[.slice A' n c',.slice B' m d',.slice C' k e']:=by have:=HP13.out.bx;rw [HK.out] at this;exact this
  obtain ⟨x0,x1,x2⟩:=hbx.three;have hpy:Blk w13 (w.heap.size+1) 29 #[.slice Q L cq]:=by have:=HP13.out.py;rw [HK.out] at this;exact this
  have y0:w13.cell? ⟨w.heap.size+1,0,none⟩=some (.slice Q L cq):=Zq hpy;have HTC:=Zh (Qls A' B' C' VA VB VC Q n m k c' d' e' va vb vc L cq M (Qdq M l) ls w13 (by have:=HP13.out.nt;rw [HK.out] at this;exact this.le (Qbh _ _)) (HRN13.out.le (Qbh _ _)) HP13.out.ok HOK2.out (HT.out.below HBW13.out) HPB.out);clear hbx hpy
  go_wp2_with fail
  with_reducible refine HTC.out.mono ?_
  unfold DrP;rintro r w14 ⟨RT,ct,rfl,hrt,hb14⟩;have HRT:=Zh hrt;have HP14:=Zh (HP13.out.below hb14);have HB14:=Zh (HB13.out.below hb14 HB13.out.lt);have HBC14:=Zh (HBC13.out.below hb14 HBC13.out.lt);have HBW14:=Zh (Zb HBW13.out hb14);have HRN14:=Zh (HRN13.out.le (Qax.below hb14).msk);have HZ814:=Zh HG9.out;clear hrt hb14 HP13 HB13 HBC13 HBW13 HRN13 HTC d0 d1 d2 x0 x1 x2 y0;have hL6:L≤6:=by rw [←HRL.out];exact HL6.out
  go_wp2_with fail
  with_reducible refine (Qtz RT L ct (tb ls (fun i q=>netB M (Qdq M l) (ls.getD i []) q)) w14 HRT.out (by omega) (fun r hr=>Yx (tb_rows HMAY.out _ r hr) (by omega))).mono ?_
  rintro r w' ⟨rfl,rfl⟩;rw [←HHW.out];have e2:((hw:Int) != (hw:Int))=false:=by simp
  obtain ⟨d0,d1,d2⟩:=HB14.out.three;have hbx:Blk w14 w.heap.size 26 #[.slice A' n c',.slice B' m d',.slice C' k e']:=by have:=HP14.out.bx;rw [HK.out] at this;exact this
  obtain ⟨x0,x1,x2⟩:=hbx.three;have f0:=hbx.frozen 0;have f1:=hbx.frozen 1;have f2:=hbx.frozen 2;have xl:=hbx.lt;clear hbx
  have HPF:=Zh (show PlS K (((w14.setCell ⟨w.heap.size,0,none⟩ (.slice VA n va)).setCell ⟨w.heap.size,1,none⟩ (.slice VB m vb)).setCell ⟨w.heap.size,2,none⟩ (.slice VC k vc)) F4 (Qdq M l) (Qdq M l) VA VB VC va vb vc Bc dl by
   have hz8:=HW8.out
   have h1:=HP14.out.put (A2:=VA) (B2':=VB) (C2:=VC) (c2:=va) (d2:=vb) (e2:=vc) (B3:=Bc) (cl2:=dl) (M2:=Qdq M l) (by
    have:=HRN14.out;rw [HK.out];exact this.le (Qay (fun b hb=>⟨fun hF=>by have:=HF8.out b hF;omega,fun e=>by have:=hb.1;rw [e] at this;show False;have h0:w.heap.size<w8.heap.size:=hz8;exact absurd this (by show ¬w8.heap.size≤w.heap.size;omega)⟩))) (by rw [HK.out];exact HS2.out) HOK2.out HBC14.out ⟨HFB.out,by rw [HK.out];have:=HZB.out;show w.heap.size+2≤Bc;have:=HW4.out;omega⟩ (by rw [ES.out];exact HAC.out)
   rw [HK.out] at h1;rw [HK.out];exact h1)
  go_wp2_with fail
  go_roundw
  case rel=>exact ⟨i+1,F4,Qdq M l,VA,VB,VC,va,vb,vc,Bc,dl,by omega,by go_num,rfl,HPF.out⟩
  case measure=>simp [intOf];omega
end Go.Proofs.YthoagdpakddbdaaGreatDoor
namespace Go.Proofs.YthoagdpakddbdaaGreatDoor
open Go.ChangeShapes Go.WideShapes Go.ChangeAt Go.RowKit Go.Deep
theorem own_:ownKnob Tryz.prog.godebug=none:=by kernel_rfl
theorem Qnn:laidOutB Tryz.prog=true:=by kernel_rfl
theorem Qyh {α:Type}{p:Nat→α→Prop}:∀ (n:Nat),(∀ i,i<n→∃ a,p i a)→∃ l:List α,l.length=n∧∀ i a,l[i]?=some a→p i a
 | 0,_=>⟨[],rfl,fun i a h=>by simp at h⟩
 | n+1,h=>by
  obtain ⟨l,hl,hp⟩:=Qyh n (fun i hi=>h i (by omega));obtain ⟨a,ha⟩:=h n (by omega);refine ⟨l ++[a],by simp [hl],fun i b hb=>?_⟩
  rcases Nat.lt_or_ge i n with h1|h1
  · rw [Yc (by omega)] at hb;exact hp i b hb
  · rw [Yb (by omega),hl] at hb
    have:i=n:=by
     rcases Nat.lt_or_ge (i-n) 1 with h2|h2
     · omega
     · rw [Yd (by simpa using h2)] at hb;cases hb
    subst this;simp at hb;subst hb;exact ha
section
variable {H:Type} {enc:TypeId×Value→H} {P:Program} {w:World} {base:Nat} {spare:Nat→Bool} {held:Bool}
theorem Qdk {α:Type}{t e k:Nat} (ht:P.underlying t=some (.slice e)) (hk:P.cellsOf e=k) (hk0:0<k) (Rel:List Value→α→Prop)
 (hel:∀ (fuel:Nat) (cs:List Value) (x:DataW H×List MemPlace),DataW.trod enc P w base spare held fuel e cs=some x→∃ a,Rel cs a)
 {A:Option Addr} {n c fuel:Nat} {x:DataW H×List MemPlace} (h:DataW.trod enc P w base spare held fuel t [.slice A n c]=some x) :
 ∃ l:List α,l.length=n∧n≤c∧c≤9223372036854775807∧(n=0∨∃ el sp,x.1=.slice el sp∧el.length=n) ∧
  ∀ i a,l[i]?=some a→∃ b o vs,A=some ⟨b,o,none⟩∧Rel vs a∧vs.length=k∧∀ j v,vs[j]?=some v→w.cell? ⟨b,o+i*k+j,none⟩=some v:=by
 rcases open_slice ht h with ⟨h0,_⟩|⟨a,len,cap,m,n',D,Pl,hcs,hb,hl,hm,hmm,hx,hi⟩
 · simp only [List.cons.injEq,Value.slice.injEq,and_true] at h0
   obtain ⟨rfl,rfl,rfl⟩:=h0;exact ⟨[],rfl,Zn _,by omega,.inl rfl,fun i a h=>by simp at h⟩
 · simp only [List.cons.injEq,Value.slice.injEq,and_true] at hcs
   obtain ⟨rfl,rfl,rfl⟩:=hcs;have hlm:n≤m:=by rw [hmm];split <;> omega
   obtain ⟨l,hll,hlp⟩:=Qyh (p:=fun i (y:α)=>∃ vs,Rel vs y∧vs.length=k∧∀ j v,vs[j]?=some v→w.cell? ((a.add (i*k)).add j)=some v) n (fun i hin=>by
    obtain ⟨cs',hc,ht'⟩:=hi i (by omega);rw [hk] at hc;obtain ⟨_,hlen,hat⟩:=World.cells?_some hc;obtain ⟨y,hy⟩:=hel _ _ _ ht';refine ⟨y,cs',hy,hlen,fun j v hv=>?_⟩;have hj:j<k:=by rw [←hlen];exact (Zs hv).1
    rw [hat j hj,hv])
   refine ⟨l,hll,hl,(by unfold maxLen at hm;omega),.inr ⟨_,_,by rw [hx],by simp⟩,fun i y hy=>?_⟩;obtain ⟨vs,h1,h2,h3⟩:=hlp i y hy
   have hspot:a.spot=none:=by
    have h4:=h3 0 vs[0] (Zg (by omega));have h5:=World.cell?_spot h4;unfold Addr.add at h5
    by_cases h6:i*k=0
    · simpa [h6] using h5
    · have hl0:l.length=n:=hll
      have h7:0<n:=by
       have:=(Zs hy).1;omega
      obtain ⟨y0,hy0⟩:∃ y0,l[0]?=some y0:=⟨l[0],Zg (by omega)⟩;obtain ⟨vs0,g1,g2,g3⟩:=hlp 0 y0 hy0;have g4:=World.cell?_spot (g3 0 vs0[0] (Zg (by omega)))
      simpa [Addr.add] using g4
   obtain ⟨b,o,sp⟩:=a;simp only at hspot;subst hspot;refine ⟨b,o,vs,rfl,h1,h2,fun j v hv=>?_⟩;have:=h3 j v hv;unfold Addr.add at this
   by_cases h6:i*k=0
   · by_cases h7:j=0
     · simpa [h6,h7] using this
     · simpa [h6,h7] using this
   · by_cases h7:j=0
     · simpa [h6,h7] using this
     · simpa [h6,h7] using this
theorem rel_int {k:IntKind}{e:Nat} (he:P.underlying e=some (.int k)) (fuel:Nat) (cs:List Value) (x:DataW H×List MemPlace) (h:DataW.trod enc P w base spare held fuel e cs=some x) :
 ∃ n:Int,cs=[.int k n]∧(Lit.int k n).wf=true:=by
 obtain ⟨n,h1,_,h3⟩:=DataW.trod_int he h;exact ⟨n,h1,h3⟩
theorem rel_bool {e:Nat}(he:P.underlying e=some .bool)(fuel:Nat)(cs:List Value)(x:DataW H×List MemPlace)(h:DataW.trod enc P w base spare held fuel e cs=some x) :
 ∃ n:Bool,cs=[.bool n]:=by
 obtain ⟨n,h1,_⟩:=DataW.trod_bool he h;exact ⟨n,h1⟩
theorem open_bools {t e:Nat} (ht:P.underlying t=some (.slice e)) (he:P.underlying e=some .bool) (hc:P.cellsOf e=1)
 {A:Option Addr} {n c fuel:Nat} {x:DataW H×List MemPlace} (h:DataW.trod enc P w base spare held fuel t [.slice A n c]=some x) :
 ∃ l:List Bool,RdB w A n l∧n≤c∧c≤9223372036854775807∧(n=0∨∃ el sp,x.1=.slice el sp∧el.length=n):=by
 obtain ⟨l,hl,hnc,hcm,hsz,hr⟩:=Qdk ht hc (by omega) (fun cs (p:Bool)=>cs=[.bool p]) (rel_bool he) h;refine ⟨l,⟨hl,fun i p hp=>?_⟩,hnc,hcm,hsz⟩;obtain ⟨b,o,vs,rfl,rfl,_,hv⟩:=hr i p hp;exact ⟨b,o,rfl,by have:=hv 0 _ rfl;simpa using this⟩
theorem Qmd {k:IntKind}{t e:Nat} (ht:P.underlying t=some (.slice e)) (he:P.underlying e=some (.int k)) (hc:P.cellsOf e=1)
 {A:Option Addr} {n c fuel:Nat} {x:DataW H×List MemPlace} (h:DataW.trod enc P w base spare held fuel t [.slice A n c]=some x) :
 ∃ l:List Int,RdK k w A n l∧n≤c∧c≤9223372036854775807∧(n=0∨∃ el sp,x.1=.slice el sp∧el.length=n)∧∀ a∈l,(Lit.int k a).wf=true:=by
 obtain ⟨l,hl,hnc,hcm,hsz,hr⟩:=Qdk ht hc (by omega) (fun cs (p:Int)=>cs=[.int k p]∧(Lit.int k p).wf=true) (rel_int he) h;refine ⟨l,⟨hl,fun i p hp=>?_⟩,hnc,hcm,hsz,fun a ha=>?_⟩
 · obtain ⟨b,o,vs,rfl,⟨rfl,_⟩,_,hv⟩:=hr i p hp
   exact ⟨b,o,rfl,by have:=hv 0 _ rfl;simpa using this⟩
 · obtain ⟨i,hi,e1⟩:=List.getElem_of_mem ha
   obtain ⟨b,o,vs,_,⟨_,h2⟩,_,_⟩:=hr i a (by rw [Zg hi,e1]);exact h2
end
end Go.Proofs.YthoagdpakddbdaaGreatDoor
namespace Go.Proofs.YthoagdpakddbdaaGreatDoor
open Go.ChangeShapes Go.WideShapes Go.ChangeAt Go.RowKit Go.Deep
theorem list_one {α:Type}:∀ {l:List α},l.length=1→∃ a,l=[a]
 | [a],_=>⟨a,rfl⟩
theorem Qgi {α:Type}:∀ {l:List α},l.length=3→∃ a b c,l=[a,b,c]
 | [a,b,c],_=>⟨a,b,c,rfl⟩
section
variable {H:Type} {enc:TypeId×Value→H} {w:World} {base:Nat} {spare:Nat→Bool} {held:Bool}
theorem Qdb {t e:TypeId} (ht:Tryz.prog.underlying t=some (.slice e)) {fuel:Nat} {cs:List Value} {x:DataW H×List MemPlace} (h:DataW.trod enc Tryz.prog w base spare held fuel t cs=some x):∃ A n c,cs=[.slice A n c]:=by
 rcases open_slice ht h with ⟨h0,_⟩|⟨a,len,cap,m,n',D,Pl,hcs,_⟩
 · exact ⟨_,_,_,h0⟩
 · exact ⟨_,_,_,hcs⟩
theorem rel_row (fuel:Nat)(cs:List Value)(x:DataW H×List MemPlace)(h:DataW.trod enc Tryz.prog w base spare held fuel 93 cs=some x) :
 ∃ l:List Int,∃ A n c,cs=[.slice A n c]∧RdI w A n l∧n≤c∧c≤9223372036854775807:=by
 obtain ⟨A,n,c,rfl⟩:=Qdb Tryz.underlying93 h;obtain ⟨l,h1,h2,h3,_,_⟩:=Qmd Tryz.underlying93 Tryz.underlying3 (by kernel_rfl) h;exact ⟨l,A,n,c,rfl,h1,h2,h3⟩
theorem Qyf {cs:List Value}{fuel:Nat}{x:DataW H×List MemPlace}(h:DataW.trod enc Tryz.prog w base spare held fuel 29 cs=some x) :
 ∃ (A:Option Addr) (n c:Nat) (ls:List (List Int)),cs=[.slice A n c]∧RdT w A n ls∧n≤c∧c≤9223372036854775807:=by
 obtain ⟨xs,m,_,_,hcl,hxl,hi⟩:=DataW.trod_struct Tryz.underlying29 h;have hxl':xs.length=1:=hxl;have a0:DataW.trod enc Tryz.prog w base spare held m 27 ((cs.drop 0).take (Tryz.prog.cellsOf 27))=xs[0]?:=hi 0 _ rfl;rw [Zg (by omega)] at a0;obtain ⟨A,n,c,e0⟩:=Qdb Tryz.underlying27 a0;rw [e0] at a0;obtain ⟨l,hl,hnc,hcm,_,hr⟩:=Qdk Tryz.underlying27 (k:=1) (by kernel_rfl) (by omega) (fun cs (l:List Int)=>∃ A n c,cs=[.slice A n c]∧RdI w A n l∧n≤c∧c≤9223372036854775807) rel_row a0;rw [show Tryz.prog.cellsOf 29=1 by kernel_rfl] at hcl
 rw [show Tryz.prog.cellsOf 27=1 by kernel_rfl] at e0
 clear a0 hi h;obtain ⟨c0,rfl⟩:=list_one hcl;simp at e0;refine ⟨A,n,c,l,by simp [e0],⟨hl,fun i p hp=>?_⟩,hnc,hcm⟩;obtain ⟨b,o,vs,e,⟨A',n',c',e2,h1,h2,h3⟩,_,hv⟩:=hr i p hp;subst e2;exact ⟨b,o,A',n',c',e,by have:=hv 0 _ rfl;simpa using this,h1,h2,h3⟩
theorem rel_vert (fuel:Nat)(cs:List Value)(x:DataW H×List MemPlace)(h:DataW.trod enc Tryz.prog w base spare held fuel 138 cs=some x):∃ p:Tri,cs=[.int .i64 p.1,.int .i64 p.2.1,.int .i64 p.2.2]:=by
 obtain ⟨xs,m,_,_,hcl,hxl,hi⟩:=DataW.trod_struct Tryz.underlying138 h;have hxl':xs.length=3:=hxl;have a0:DataW.trod enc Tryz.prog w base spare held m 3 ((cs.drop 0).take (Tryz.prog.cellsOf 3))=xs[0]?:=hi 0 _ rfl;have a1:DataW.trod enc Tryz.prog w base spare held m 3 ((cs.drop 1).take (Tryz.prog.cellsOf 3))=xs[1]?:=hi 1 _ rfl;have a2:DataW.trod enc Tryz.prog w base spare held m 3 ((cs.drop 2).take (Tryz.prog.cellsOf 3))=xs[2]?:=hi 2 _ rfl;rw [Zg (by omega)] at a0 a1 a2;obtain ⟨n0,e0,_⟩:=DataW.trod_int Tryz.underlying3 a0;obtain ⟨n1,e1,_⟩:=DataW.trod_int Tryz.underlying3 a1;obtain ⟨n2,e2,_⟩:=DataW.trod_int Tryz.underlying3 a2;rw [show Tryz.prog.cellsOf 138=3 by kernel_rfl] at hcl
 rw [show Tryz.prog.cellsOf 3=1 by kernel_rfl] at e0 e1 e2
 clear a0 a1 a2 hi h;obtain ⟨c0,c1,c2,rfl⟩:=Qgi hcl;simp at e0 e1 e2;exact ⟨(n0,n1,n2),by simp [e0,e1,e2]⟩
theorem rel_arc (fuel:Nat)(cs:List Value)(x:DataW H×List MemPlace)(h:DataW.trod enc Tryz.prog w base spare held fuel 73 cs=some x):∃ p:Tri,cs=[.int .i64 p.1,.int .i64 p.2.1,.int .i64 p.2.2]:=by
 obtain ⟨xs,m,_,_,hcl,hxl,hi⟩:=DataW.trod_struct Tryz.underlying73 h;have hxl':xs.length=3:=hxl;have a0:DataW.trod enc Tryz.prog w base spare held m 3 ((cs.drop 0).take (Tryz.prog.cellsOf 3))=xs[0]?:=hi 0 _ rfl;have a1:DataW.trod enc Tryz.prog w base spare held m 3 ((cs.drop 1).take (Tryz.prog.cellsOf 3))=xs[1]?:=hi 1 _ rfl;have a2:DataW.trod enc Tryz.prog w base spare held m 2 ((cs.drop 2).take (Tryz.prog.cellsOf 2))=xs[2]?:=hi 2 _ rfl;rw [Zg (by omega)] at a0 a1 a2;obtain ⟨n0,e0,_⟩:=DataW.trod_int Tryz.underlying3 a0;obtain ⟨n1,e1,_⟩:=DataW.trod_int Tryz.underlying3 a1;obtain ⟨n2,e2,_⟩:=DataW.trod_int Tryz.underlying2 a2;rw [show Tryz.prog.cellsOf 73=3 by kernel_rfl] at hcl
 rw [show Tryz.prog.cellsOf 3=1 by kernel_rfl] at e0 e1
 rw [show Tryz.prog.cellsOf 2=1 by kernel_rfl] at e2
 clear a0 a1 a2 hi h;obtain ⟨c0,c1,c2,rfl⟩:=Qgi hcl;simp at e0 e1 e2;exact ⟨(n0,n1,n2),by simp [e0,e1,e2]⟩
def TabCs (w:World)(cs:List Value)(t:Qby):Prop:=∃ (A:Option Addr) (n c:Nat),cs=[.int .i64 t.ins,.int .i64 t.outs,.slice A n c]∧RdI w A n t.costs∧n≤c∧c≤9223372036854775807
theorem rel_tab (fuel:Nat)(cs:List Value)(x:DataW H×List MemPlace)(h:DataW.trod enc Tryz.prog w base spare held fuel 75 cs=some x):∃ t:Qby,TabCs w cs t:=by
 obtain ⟨xs,m,_,_,hcl,hxl,hi⟩:=DataW.trod_struct Tryz.underlying75 h;have hxl':xs.length=3:=hxl;have a0:DataW.trod enc Tryz.prog w base spare held m 3 ((cs.drop 0).take (Tryz.prog.cellsOf 3))=xs[0]?:=hi 0 _ rfl;have a1:DataW.trod enc Tryz.prog w base spare held m 3 ((cs.drop 1).take (Tryz.prog.cellsOf 3))=xs[1]?:=hi 1 _ rfl;have a2:DataW.trod enc Tryz.prog w base spare held m 30 ((cs.drop 2).take (Tryz.prog.cellsOf 30))=xs[2]?:=hi 2 _ rfl;rw [Zg (by omega)] at a0 a1 a2;obtain ⟨n0,e0,_⟩:=DataW.trod_int Tryz.underlying3 a0;obtain ⟨n1,e1,_⟩:=DataW.trod_int Tryz.underlying3 a1;obtain ⟨A,n,c,e2⟩:=Qdb Tryz.underlying30 a2;rw [e2] at a2;obtain ⟨l,h1,h2,h3,_,_⟩:=Qmd Tryz.underlying30 Tryz.underlying2 (by kernel_rfl) a2;rw [show Tryz.prog.cellsOf 75=3 by kernel_rfl] at hcl
 rw [show Tryz.prog.cellsOf 3=1 by kernel_rfl] at e0 e1
 rw [show Tryz.prog.cellsOf 30=1 by kernel_rfl] at e2
 clear a0 a1 a2 hi h;obtain ⟨c0,c1,c2,rfl⟩:=Qgi hcl;simp at e0 e1 e2;exact ⟨⟨n0,n1,l⟩,A,n,c,by simp [e0,e1,e2],h1,h2,h3⟩
theorem open_net {cs:List Value}{fuel:Nat}{x:DataW H×List MemPlace}(h:DataW.trod enc Tryz.prog w base spare held fuel 26 cs=some x) :
 ∃ (A B C:Option Addr) (n m k c d e:Nat) (N:Qai),cs=[.slice A n c,.slice B m d,.slice C k e]∧Qbc w A B C n m k N∧k≤9223372036854775807:=by
 obtain ⟨xs,f,_,_,hcl,hxl,hi⟩:=DataW.trod_struct Tryz.underlying26 h;have hxl':xs.length=3:=hxl;have a0:DataW.trod enc Tryz.prog w base spare held f 22 ((cs.drop 0).take (Tryz.prog.cellsOf 22))=xs[0]?:=hi 0 _ rfl;have a1:DataW.trod enc Tryz.prog w base spare held f 23 ((cs.drop 1).take (Tryz.prog.cellsOf 23))=xs[1]?:=hi 1 _ rfl;have a2:DataW.trod enc Tryz.prog w base spare held f 24 ((cs.drop 2).take (Tryz.prog.cellsOf 24))=xs[2]?:=hi 2 _ rfl;rw [Zg (by omega)] at a0 a1 a2;obtain ⟨A,n,c,e0⟩:=Qdb Tryz.underlying22 a0;obtain ⟨B,m,d,e1⟩:=Qdb Tryz.underlying23 a1;obtain ⟨C,k,e,e2⟩:=Qdb Tryz.underlying24 a2;rw [e0] at a0;rw [e1] at a1;rw [e2] at a2;obtain ⟨vs,hl0,_,_,_,hr0⟩:=Qdk Tryz.underlying22 (k:=3) (by kernel_rfl) (by omega) (fun cs (p:Tri)=>cs=[.int .i64 p.1,.int .i64 p.2.1,.int .i64 p.2.2]) rel_vert a0;obtain ⟨ar,hl1,_,_,_,hr1⟩:=Qdk Tryz.underlying23 (k:=3) (by kernel_rfl) (by omega) (fun cs (p:Tri)=>cs=[.int .i64 p.1,.int .i64 p.2.1,.int .i64 p.2.2]) rel_arc a1;obtain ⟨ts,hl2,hkc,hcm,_,hr2⟩:=Qdk Tryz.underlying24 (k:=3) (by kernel_rfl) (by omega) (TabCs w) rel_tab a2;rw [show Tryz.prog.cellsOf 26=3 by kernel_rfl] at hcl
 rw [show Tryz.prog.cellsOf 22=1 by kernel_rfl] at e0
 rw [show Tryz.prog.cellsOf 23=1 by kernel_rfl] at e1
 rw [show Tryz.prog.cellsOf 24=1 by kernel_rfl] at e2
 clear a0 a1 a2 hi h;obtain ⟨c0,c1,c2,rfl⟩:=Qgi hcl;simp at e0 e1 e2;refine ⟨A,B,C,n,m,k,c,d,e,⟨vs,ar,ts⟩,by simp [e0,e1,e2],⟨⟨hl0,fun i p hp=>?_⟩,⟨hl1,fun i p hp=>?_⟩,⟨hl2,fun i p hp=>?_⟩⟩,by omega⟩
 · obtain ⟨b,o,us,e5,rfl,_,hv⟩:=hr0 i p hp
   exact ⟨b,o,e5,by have:=hv 0 _ rfl;simpa using this,hv 1 _ rfl,hv 2 _ rfl⟩
 · obtain ⟨b,o,us,e5,rfl,_,hv⟩:=hr1 i p hp
   exact ⟨b,o,e5,by have:=hv 0 _ rfl;simpa using this,hv 1 _ rfl,hv 2 _ rfl⟩
 · obtain ⟨b,o,us,e5,⟨A',n',c',rfl,h1,h2,h3⟩,_,hv⟩:=hr2 i p hp
   exact ⟨b,o,e5,by have:=hv 0 _ rfl;simpa using this,hv 1 _ rfl,A',n',c',hv 2 _ rfl,h1,h2,h3⟩
end
end Go.Proofs.YthoagdpakddbdaaGreatDoor
