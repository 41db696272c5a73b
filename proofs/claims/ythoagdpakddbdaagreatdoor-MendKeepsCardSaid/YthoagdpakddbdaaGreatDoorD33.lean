/- Parts of the proof: RoO. -/
import Derived.Test.YthoagdpakddbdaaGreatDoorD1
import Derived.Test.YthoagdpakddbdaaGreatDoorD23
import Derived.Test.YthoagdpakddbdaaGreatDoorD32
namespace Go.Proofs.YthoagdpakddbdaaGreatDoor
open Go.RowKit Go.Proofs.Tryz
attribute [local go_sem ↓] Go.wp_at_zero Go.wp_at_succ
abbrev Ent:=Nat×Nat×Nat×Nat
def Qgz (e:Ent):List Value:=[.int .i64 ((e.1:Int)+1),.int .i64 (e.2.1:Int),.int .i64 (e.2.2.1:Int),.int .i64 (e.2.2.2:Int)]
def Qev (l:List Ent):List Value:=l.flatMap Qgz
theorem Qtw (l m:List Ent):Qev (l ++m)=Qev l ++Qev m:=by simp [Qev]
theorem Qtt (e:Ent):Qev [e]=Qgz e:=by simp [Qev]
theorem Qoc (e:Ent):∀ u∈Qgz e,u.oneCell'=true:=by
 intro u hu;simp only [Qgz,List.mem_cons,List.not_mem_nil,or_false] at hu
 rcases hu with rfl|rfl|rfl|rfl <;> rfl
theorem Qoo:∀ (l:List Ent)(k:Nat)(e:Ent),l[k]?=some e→∀ q,q<4→(Qev l)[k*4+q]?=(Qgz e)[q]?
 | [],k,e,h,_,_=>by simp at h
 | x::t,0,e,h,q,hq=>by
  simp only [List.getElem?_cons_zero,Option.some.injEq] at h;subst h
  show (Qgz x ++Qev t)[0*4+q]?=_
  rw [Nat.zero_mul,Nat.zero_add,List.getElem?_append_left (by simpa [Qgz] using hq)]
 | x::t,k+1,e,h,q,hq=>by
  have:=Qoo t k e (by simpa using h) q hq
  show (Qgz x ++Qev t)[(k+1)*4+q]?=_
  rw [List.getElem?_append_right (by simp [Qgz];omega),←this]
  congr 1
  simp [Qgz];omega
def EntP (N:Qaj) (ls:List (List Int)) (EL:List Ent):Prop:=∀ (k:Nat) (e:Ent),EL[k]?=some e→∃ l x s t,Qej N ls k e.1 l e.2.1 x e.2.2.1 e.2.2.2 s t
theorem EntP.push {N:Qaj} {ls:List (List Int)} {EL:List Ent} {e:Ent} (h:EntP N ls EL) (he:∃ l x s t,Qej N ls EL.length e.1 l e.2.1 x e.2.2.1 e.2.2.2 s t):EntP N ls (EL ++[e]):=fun k f hk=>by
 rcases Nat.lt_trichotomy k EL.length with e1|e1|e1
 · rw [List.getElem?_append_left e1] at hk;exact h k f hk
 · subst e1;rw [List.getElem?_append_right (Zn _),Nat.sub_self] at hk;cases hk;exact he
 · rw [List.getElem?_eq_none (by simp;omega)] at hk;cases hk
structure OvN (w1 V1:World) (F:Nat→Prop) (b5:Nat) (x0 x1 x2 x3 x4:Value) (N:Qaj) (ls:List (List Int)) (V:World) (A:Option Addr) (cp:Nat) (EL:List Ent):Prop where
 kept:Qaz F V1 V
 size:V1.heap.size≤V.heap.size
 bel:Below w1.heap.size w1 V
 box:Blk V b5 38 #[x0,x1,x2,x3,x4,.slice A EL.length cp]
 own:Own V V1.heap.size 97 4 A EL.length cp (Qev EL)
 row:EntP N ls EL
section
variable {w1 V1 V V':World} {F:Nat→Prop} {b5:Nat} {x0 x1 x2 x3 x4:Value} {N:Qaj} {ls:List (List Int)} {A:Option Addr} {cp:Nat} {EL:List Ent}
theorem OvN.below (h:OvN w1 V1 F b5 x0 x1 x2 x3 x4 N ls V A cp EL)(hb:Below V.heap.size V V'):OvN w1 V1 F b5 x0 x1 x2 x3 x4 N ls V' A cp EL :=
 ⟨h.kept.trans (Qaz.below hb) h.size,Nat.le_trans h.size hb.size,Zb h.bel hb,h.box.below hb h.box.lt,h.own.below hb,h.row⟩
theorem OvN.le (h:OvN w1 V1 F b5 x0 x1 x2 x3 x4 N ls V A cp EL):Le (msk V1 F) V:=h.kept.msk.trans (Qbn _ _)
theorem OvN.push {A':Option Addr}{cp':Nat}{e:Ent}(h:OvN w1 V1 F b5 x0 x1 x2 x3 x4 N ls V A cp EL)(hF:∀ b,F b→b<V1.heap.size∧b≠b5)(hb:b5<V1.heap.size)(hw:w1.heap.size≤b5)
 (ho:Own V' V1.heap.size 97 4 A' (EL.length+1) cp' (Qev EL ++Qgz e)) (hg:V.grownBy V' (Qab A)) (he:∃ l x s t,Qej N ls EL.length e.1 l e.2.1 x e.2.2.1 e.2.2.2 s t) :
 OvN w1 V1 F b5 x0 x1 x2 x3 x4 N ls (V'.setCell ⟨b5,5,none⟩ (.slice A' (EL.length+1) cp')) A' cp' (EL ++[e]):=by
 have hA:∀ g,Qab A=some g→V1.heap.size≤g:=fun g e=>(h.own.lt g e).1
 have hz:V1.heap.size≤V'.heap.size:=Nat.le_trans h.size hg.size;have hx:=h.box.grown hg (fun e=>by have:=hA _ e;omega);refine ⟨?_,by simpa [World.setCell] using hz,?_,?_,?_,h.row.push he⟩
 · refine (h.kept.trans (Qaz.grown hg (fun b hb' e=>by have:=hA _ e;have:=(hF b hb').1;omega)) h.size).trans (Qaz.set V' b5 5 _ (fun e=>(hF b5 e).2 rfl)) hz
 · exact Bel.setCell_ (h.bel.grown hg h.bel.size (fun g e=>by have:=hA _ e;have:=h.bel.size;omega)) hw
 · rw [List.length_append]
   have:=hx.set_ 5 (.slice A' (EL.length+1) cp')
   simpa using this
 · rw [List.length_append,Qtw,Qtt]
   exact ho.far (Qaa _ _ _ _) (.inr (fun e=>by have:=(ho.lt b5 e).1;omega))
end
theorem Qjm {G:Nat→Prop}{W:World}{g:Nat}(hg:¬G g)(v0 v1 v2 v3 v4 v5:Value):Qaz G W ((((((W.setCell ⟨g,0,none⟩ v0).setCell ⟨g,1,none⟩ v1).setCell ⟨g,2,none⟩ v2).setCell ⟨g,3,none⟩ v3).setCell ⟨g,4,none⟩ v4).setCell ⟨g,5,none⟩ v5):=fun b hb hl=>by
 have key:∀ (W':World) (o:Nat) (v:Value),b<W'.heap.size→(W'.setCell ⟨g,o,none⟩ v).heap[b]?=W'.heap[b]?∧b<(W'.setCell ⟨g,o,none⟩ v).heap.size:=fun W' o v h'=>⟨(Qaa W' g o v).block b h' (fun e=>hg (by cases e;exact hb)),by simpa [World.setCell] using h'⟩
 obtain ⟨e0,h0⟩:=key W 0 v0 hl;obtain ⟨e1,h1⟩:=key _ 1 v1 h0;obtain ⟨e2,h2⟩:=key _ 2 v2 h1;obtain ⟨e3,h3⟩:=key _ 3 v3 h2;obtain ⟨e4,h4⟩:=key _ 4 v4 h3;obtain ⟨e5,h5⟩:=key _ 5 v5 h4;rw [e5,e4,e3,e2,e1,e0]
def Qxf (w:World)(xA xB xC xQ:Value)(L:Nat)(N:Qaj) (ls:List (List Int)) (r:Ending) (w':World):Prop :=
 ∃ (G:Option Addr) (cg:Nat) (AE:Option Addr) (ce:Nat) (EL:List Ent),r=.returned (.agg #[xA,xB,xC,xQ,.slice G L cg,.slice AE EL.length ce])∧RdG w' G L (gatesOf N.ar ls)∧Rds w' 4 AE EL.length (Qev EL)∧EL.length=Qbf (gatesOf N.ar ls)∧EntP N ls EL∧Below w.heap.size w w'
theorem Qwt:(Tryz.prog.info? 97).map (fun i=>(i.zero,i.size,i.bytes))=some (some (.agg #[.int .i64 0,.int .i64 0,.int .i64 0,.int .i64 0]),4,32):=by kernel_rfl
set_option maxHeartbeats 4000000 in
set_option maxRecDepth 20000 in
theorem Qqs (A B C Q:Option Addr)(n m k c d e L cq:Nat)(N:Qaj) (ls:List (List Int)) (w:World) (h:Qbo w A B C n m k N) (hok:Qau N) (hq:RdT w Q L ls) (hP:Qcg N.vs.length ls) (hNC:Qbf (gatesOf N.ar ls)≤1000000000) :
 Calls prog 11 #[.agg #[.slice A n c,.slice B m d,.slice C k e],.agg #[.slice Q L cq]] w (Qxf w (.slice A n c) (.slice B m d) (.slice C k e) (.slice Q L cq) L N ls):=by
 have HGT:=Zh (fun V (hV:Below w.heap.size w V)=>Qqg A B C Q n m k c d e L cq N ls V (h.below hV) hok (hq.below hV) hP);have HP:=Zh hP;have HLL:=Zh hq.1;have l6:L≤6:=by rw [←hq.1];exact hP.l6
 have hlv:=hok.lv;have hla:=hok.la;obtain ⟨NC,hNCe⟩:∃ NC,NC=Qbf (gatesOf N.ar ls):=⟨_,rfl⟩;rw [←hNCe] at hNC;have HNC:=Zh hNCe;clear h hok hq hP hNCe
 go_enter func11,ntmps11
 go_wp2_with fail
 (refine Qag ?_;intro w1 hw1)
 have hb1:Below w.heap.size w w1:=by rw [hw1];exact Qae
 have hX:Blk w1 w.heap.size 26 #[.slice A n c,.slice B m d,.slice C k e]:=by
  rw [hw1];refine Blk.alloc (Blk.alloc ?_ _) _;exact Blk.new _ _ _
 have hY:Blk w1 (w.heap.size+1) 29 #[.slice Q L cq]:=by
  rw [hw1];refine Blk.alloc ?_ _;refine Blk.new' _ _ _ ?_;simp
 have hZ:Blk w1 (w.heap.size+1+1) 38 #[.slice none 0 0,.slice none 0 0,.slice none 0 0,.slice none 0 0,.slice none 0 0,.slice none 0 0]:=by
  rw [hw1];refine Blk.new' _ _ _ ?_;simp
 clear hw1
 have HSX:=Zh (show ∀ V,Below w1.heap.size w1 V→V.cell? ⟨w.heap.size,0,none⟩=some (.slice A n c)∧V.cell? ⟨w.heap.size,1,none⟩=some (.slice B m d)∧V.cell? ⟨w.heap.size,2,none⟩=some (.slice C k e)∧V.cell? ⟨w.heap.size+1,0,none⟩=some (.slice Q L cq) from
  fun V hV=>⟨by rw [(hX.below hV hX.lt).cell];rfl,by rw [(hX.below hV hX.lt).cell];rfl,by rw [(hX.below hV hX.lt).cell];rfl,by rw [(hY.below hV hY.lt).cell];rfl⟩)
 refine wp_region_held_drew (S:=fun V=>Below w1.heap.size w1 V) (by kernel_rfl) (Zr _ _).drew (fun _=>?_);refine tz 0 10 ?_;refine tz 1 11 ?_;refine tz 2 12 ?_;refine tz 3 13 ?_;refine wpAnyH_ready (rs:=[4,6]) (by kernel_rfl) (by simp) ?_;refine AllReadyH.cons (o:=_) rfl (fun K hK=>?_) (AllReadyH.cons (o:=_) rfl (fun K hK=>?_) AllReadyH.nil)
 · go_simp
   with_reducible refine (HGT.out _ (hb1.trans (Zr _ _).drew)).mono ?_
   rintro r w2 ⟨G,cg,rfl,hG,hb2⟩;go_simp;have hb2':Below w1.heap.size w1 w2:=(Zr _ _).drew.trans hb2;refine hK.out _ _ hb2' (fun _=>?_);clear hK K;refine tz 5 15 ?_;refine Zk 6 (fun K hK=>?_);go_simp;refine hK.out _ _ (Zb hb2' Qae) (fun _=>?_);clear hK K;refine Zk 7 (fun K hK=>?_);go_simp;refine hK.out _ _ (Zb hb2' Qae) (fun _=>?_);clear hK K;refine Zd ?_;obtain ⟨V1,hV1⟩:∃ V1,V1=w2.alloc (.cells #[.slice A n c,.slice B m d,.slice C k e,.slice Q L cq,.slice G L cg,.slice none 0 0] 38):=⟨_,rfl⟩;rw [←hV1];have hb2V:Below w2.heap.size w2 V1:=by rw [hV1];exact Qae
   have hBX':Blk V1 w2.heap.size 38 #[.slice A n c,.slice B m d,.slice C k e,.slice Q L cq,.slice G L cg,.slice none 0 0]:=by rw [hV1];exact Blk.new _ _ _
   have hbV:=Zb hb2' hb2V;clear hV1;obtain ⟨b5,hb5⟩:∃ b5,b5=w2.heap.size:=⟨_,rfl⟩;have hBX:Blk V1 b5 38 #[.slice A n c,.slice B m d,.slice C k e,.slice Q L cq,.slice G L cg,.slice none 0 0]:=by rw [hb5];exact hBX'
   obtain ⟨F,hFe⟩:∃ F:Nat→Prop,F=fun b=>w1.heap.size≤b∧b<w2.heap.size:=⟨_,rfl⟩
   have hG1:RdG (msk V1 F) G L (gatesOf N.ar ls):=hG.le ((Qaz.msk (Qaz.below hb2V)).trans (Qbd (fun b hb=>by rw [hFe];exact hb)));have hb51:b5<V1.heap.size:=hBX.lt
   have hb52:w1.heap.size≤b5:=by rw [hb5];exact hb2'.size
   have hFF:∀ b,F b→b<V1.heap.size∧b≠b5:=fun b hb=>by
    rw [hFe] at hb;have:=hb2V.size;exact ⟨by omega,by omega⟩
   have hFL:∀ b,F b→w1.heap.size≤b:=fun b hb=>by rw [hFe] at hb;exact hb.1
   rw [←hb5];clear hG hFe hb5 hBX' hb2V hb2 hb2'
   as_aux_lemma =>
    have HG:=Zh (show RdG (msk V1 F) G L (gatesOf N.ar ls) from hG1)
    have HF:=Zh hFF;have HFL:=Zh hFL;have hV1b:w.heap.size+1+1<V1.heap.size:=by have:=hZ.lt;have:=hbV.size;omega
    have HV0:=Zh (show OvN w1 V1 F b5 (.slice A n c) (.slice B m d) (.slice C k e) (.slice Q L cq) (.slice G L cg) N ls V1 none 0 [] from ⟨Qaz.refl _ _,Zn _,hbV,hBX,Own.nil _ _ _ _,fun q f hq=>by simp at hq⟩)
    clear hG1 hFF hFL hBX hbV HSX
    go_wp2_with fail
    go_loopw [6] (fun q V=>∃ (i:Nat) (A':Option Addr) (cp:Nat) (EL:List Ent),i≤L∧q=.int .i64 i∧EL.length=Qbf ((gatesOf N.ar ls).take i)∧OvN w1 V1 F b5 (.slice A n c) (.slice B m d) (.slice C k e) (.slice Q L cq) (.slice G L cg) N ls V A' cp EL) (fun q _=>L-(intOf q).toNat)
    case atStart=>exact ⟨0,none,0,[],Nat.zero_le _,rfl,by simp [Qbf],HV0.out⟩
    case round =>
     obtain ⟨i,A',cp,EL,hi,rfl,hEL,hV⟩:=hrel;have HV:=Zh hV;have HEL:=Zh hEL;have x4:wr.cell? ⟨b5,4,none⟩=some (.slice G L cg):=Zq hV.box;have xl:=hV.box.lt;clear hEL
     by_cases hlt:i<L
     rotate_left
     · obtain rfl:i=L:=by omega
       have x0:wr.cell? ⟨b5,0,none⟩=some (.slice A n c):=Zq hV.box;have x1:wr.cell? ⟨b5,1,none⟩=some (.slice B m d):=Zq hV.box;have x2:wr.cell? ⟨b5,2,none⟩=some (.slice C k e):=Zq hV.box;have x3:wr.cell? ⟨b5,3,none⟩=some (.slice Q i cq):=Zq hV.box;have x5:wr.cell? ⟨b5,5,none⟩=some (.slice A' EL.length cp):=Zq hV.box;have hZr:=hZ.below hV.bel hZ.lt;have hZl:=hZ.lt;have z0:wr.cell? ⟨w.heap.size+1+1,0,none⟩=some (.slice none 0 0):=Zq hZr;have z1:wr.cell? ⟨w.heap.size+1+1,1,none⟩=some (.slice none 0 0):=Zq hZr;have z2:wr.cell? ⟨w.heap.size+1+1,2,none⟩=some (.slice none 0 0):=Zq hZr;have z3:wr.cell? ⟨w.heap.size+1+1,3,none⟩=some (.slice none 0 0):=Zq hZr;have z4:wr.cell? ⟨w.heap.size+1+1,4,none⟩=some (.slice none 0 0):=Zq hZr;have z5:wr.cell? ⟨w.heap.size+1+1,5,none⟩=some (.slice none 0 0):=Zq hZr;have f0:=hZr.frozen 0;have f1:=hZr.frozen 1;have f2:=hZr.frozen 2;have f3:=hZr.frozen 3;have f4:=hZr.frozen 4;have f5:=hZr.frozen 5;clear hV
       go_wp2_with fail
       obtain ⟨w9,hw9⟩:∃ w9,w9=(((((wr.setCell ⟨w.heap.size+1+1,0,none⟩ (.slice A n c)).setCell ⟨w.heap.size+1+1,1,none⟩ (.slice B m d)).setCell ⟨w.heap.size+1+1,2,none⟩ (.slice C k e)).setCell ⟨w.heap.size+1+1,3,none⟩ (.slice Q i cq)).setCell ⟨w.heap.size+1+1,4,none⟩ (.slice G i cg)).setCell ⟨w.heap.size+1+1,5,none⟩ (.slice A' EL.length cp):=⟨_,rfl⟩;rw [←hw9]
       have hB9:Blk w9 (w.heap.size+1+1) 38 #[.slice A n c,.slice B m d,.slice C k e,.slice Q i cq,.slice G i cg,.slice A' EL.length cp]:=by
        have:=(((((hZr.set_ 0 (.slice A n c)).set_ 1 (.slice B m d)).set_ 2 (.slice C k e)).set_ 3 (.slice Q i cq)).set_ 4 (.slice G i cg)).set_ 5 (.slice A' EL.length cp);rw [←hw9] at this
        simpa using this
       have hbr:Below w.heap.size w wr:=Zb hb1 HV.out.bel
       have hb9:Below w.heap.size w w9:=by
        rw [hw9];exact Bel.setCell_ (Bel.setCell_ (Bel.setCell_ (Bel.setCell_ (Bel.setCell_ (Bel.setCell_ hbr (by omega)) (by omega)) (by omega)) (by omega)) (by omega)) (by omega)
       have hk9:Qaz (fun b=>b≠w.heap.size+1+1) wr w9:=by rw [hw9];exact Qjm (fun e=>e rfl) _ _ _ _ _ _
       obtain ⟨c0,c1,c2,c3,c4,c5⟩:w9.cell? ⟨w.heap.size+1+1,0,none⟩=some (.slice A n c)∧w9.cell? ⟨w.heap.size+1+1,1,none⟩=some (.slice B m d)∧w9.cell? ⟨w.heap.size+1+1,2,none⟩=some (.slice C k e)∧w9.cell? ⟨w.heap.size+1+1,3,none⟩=some (.slice Q i cq)∧w9.cell? ⟨w.heap.size+1+1,4,none⟩=some (.slice G i cg)∧w9.cell? ⟨w.heap.size+1+1,5,none⟩=some (.slice A' EL.length cp):=by
        refine ⟨?_,?_,?_,?_,?_,?_⟩ <;> (rw [hB9.cell];rfl)
       refine bodyPost_ret (v:=.agg #[.slice A n c,.slice B m d,.slice C k e,.slice Q i cq,.slice G i cg,.slice A' EL.length cp]) (by simp [results,results11,go_sem,c0,c1,c2,c3,c4,c5]) rfl ?_;refine ⟨G,cg,A',cp,EL,rfl,?_,(HV.out.own.keep (fun b hb=>hk9 b (by have:=(HV.out.own.lt b hb).1;have:=hV1b;omega) (HV.out.own.lt b hb).2)).rds,?_,HV.out.row,hb9⟩
       · exact HG.out.le ((HV.out.kept.trans (hk9.mono (fun b hb=>by have:=HFL.out b hb;omega)) HV.out.size).msk.trans (Qbn _ _))
       · rw [HEL.out,List.take_of_length_le (by unfold gatesOf;simp [HLL.out])]
     obtain ⟨row,gb,go,rA,rn,rc,hrow,rfl,g1,g2,g3⟩:=HG.out.at_ hlt;obtain ⟨l,hl⟩:∃ l,ls[i]?=some l:=⟨_,Zg (by rw [HLL.out];exact hlt)⟩
     have hre:row=gateRow N.ar l:=by
      rw [Qba hl] at hrow;exact (Option.some.inj hrow).symm
     subst hre;have hM:(gateRow N.ar l).length=rn:=g2.1
     have hMb:rn≤4096:=by
      have h1:=HP.out.lvl l (Zm hl);have h2:=Qbp (l:=l) (n:=(N.vs.length:Int)) (fun x hx=>h1.hi x hx) (by omega);rw [←hM,Qan];omega
     have HG1:=Zh g1;have HG2:=Zh g2;have HM:=Zh hM;have HLJ:=Zh hl;have i1:(i:Int)<(L:Int):=by omega
     have i2:(0:Int)≤(i:Int):=by omega
     clear hV g1 g2 hl hrow hM
     go_wp2_with fail
     go_loopw [7] (fun q V=>∃ (c9:Nat) (A':Option Addr) (cp:Nat) (EL:List Ent),c9≤rn∧q=.int .i64 c9∧EL.length=Qbf ((gatesOf N.ar ls).take i)+Qda ((gateRow N.ar l).take c9)∧OvN w1 V1 F b5 (.slice A n c) (.slice B m d) (.slice C k e) (.slice Q L cq) (.slice (some ⟨gb,go,none⟩) L cg) N ls V A' cp EL) (fun q _=>rn-(intOf q).toNat)
     case atStart=>exact ⟨0,A',cp,EL,Nat.zero_le _,rfl,by rw [HEL.out];simp [Qda],HV.out⟩
     case round =>
      clear HV HEL x4 xl;obtain ⟨c9,A',cp,EL,hc,rfl,hEL,hV⟩:=hrel;have HV:=Zh hV;have HEL:=Zh hEL;have x4:wr.cell? ⟨b5,4,none⟩=some (.slice (some ⟨gb,go,none⟩) L cg):=Zq hV.box;have xl:=hV.box.lt;have y1:=hV.le _ _ HG1.out;clear hEL hV
      by_cases hcM:c9<rn
      rotate_left
      · obtain rfl:c9=rn:=by omega
        have j1:¬((c9:Int)<(c9:Int)):=by omega
        go_wp2_with fail
        go_roundw
        case rel=>exact ⟨i+1,A',cp,EL,by omega,by go_num,by rw [Qbr (Qba HLJ.out),HEL.out,List.take_of_length_le (l:=gateRow N.ar l) (by rw [HM.out];exact Zn _)],HV.out⟩
        case measure=>simp [intOf];omega
      obtain ⟨x,rb,ro,A1,n1,c1,A2,n2,c2,hx,rfl,k1,k2,k3,k4,_⟩:=HG2.out.at_ hcM;have hm1:x.1.length=n1:=k2.1;have hm2:x.2.length=n2:=k4.1;have hgx:=Qbg hx
      have hfit:EL.length+szG x≤NC:=by
       have e1:=Qeh (gateRow N.ar l) (c9+1);have e2:=Qdi (gatesOf N.ar ls) (i+1);rw [Qbr (Qba HLJ.out),←HNC.out] at e2;rw [Qbl hx] at e1;have:=HEL.out;omega
      have HK1:=Zh k1;have HK3:=Zh k3;have HX:=Zh hx;have j1:(c9:Int)<(rn:Int):=by omega
      have j2:(0:Int)≤(c9:Int):=by omega
      have hn1:n1≤16384:=by omega
      have hn2:n2≤16384:=by omega
      have HCL:=Zh (show EL.length=Qbf ((gatesOf N.ar ls).take i)+Qda ((gateRow N.ar l).take c9) from HEL.out)
      obtain ⟨E0,hE0⟩:∃ E0,E0=EL.length:=⟨_,rfl⟩;rw [←hE0] at HCL hfit;clear k1 k2 k3 k4 hx hE0 hgx
      go_wp2_with fail
      go_loopw [8] (fun q V=>∃ (a:Nat) (A':Option Addr) (cp:Nat) (EL:List Ent),a≤n1∧q=.int .i64 a∧EL.length=E0+a*n2∧OvN w1 V1 F b5 (.slice A n c) (.slice B m d) (.slice C k e) (.slice Q L cq) (.slice (some ⟨gb,go,none⟩) L cg) N ls V A' cp EL) (fun q _=>n1-(intOf q).toNat)
      case atStart=>exact ⟨0,A',cp,EL,Nat.zero_le _,rfl,by rw [HEL.out,HCL.out];omega,HV.out⟩
      case round =>
       clear HV HEL x4 xl y1;obtain ⟨a,A',cp,EL,ha,rfl,hEL,hV⟩:=hrel;have HV:=Zh hV;have HEL:=Zh hEL;have x4:wr.cell? ⟨b5,4,none⟩=some (.slice (some ⟨gb,go,none⟩) L cg):=Zq hV.box;have xl:=hV.box.lt;have y1:=hV.le _ _ HG1.out;have y2:=hV.le _ _ HK1.out;clear hEL hV
       by_cases haM:a<n1
       rotate_left
       · obtain rfl:a=n1:=by omega
         have l1:¬((a:Int)<(a:Int)):=by omega
         go_wp2_with fail
         go_roundw
         case rel=>exact ⟨c9+1,A',cp,EL,by omega,by go_num,by rw [Qbl HX.out,HEL.out,HCL.out];unfold szG;rw [hm1,hm2,Nat.add_assoc],HV.out⟩
         case measure=>simp [intOf];omega
       have l1:(a:Int)<(n1:Int):=by omega
       have l2:(0:Int)≤(a:Int):=by omega
       go_wp2_with fail
       go_loopw [9] (fun q V=>∃ (b:Nat) (A':Option Addr) (cp:Nat) (EL:List Ent),b≤n2∧q=.int .i64 b∧EL.length=E0+a*n2+b∧OvN w1 V1 F b5 (.slice A n c) (.slice B m d) (.slice C k e) (.slice Q L cq) (.slice (some ⟨gb,go,none⟩) L cg) N ls V A' cp EL) (fun q _=>n2-(intOf q).toNat)
       case atStart=>exact ⟨0,A',cp,EL,Nat.zero_le _,rfl,by rw [HEL.out];omega,HV.out⟩
       case round =>
        clear HV HEL x4 xl y1 y2;obtain ⟨b,A',cp,EL,hb,rfl,hEL,hV⟩:=hrel;have HV:=Zh hV;have HEL:=Zh hEL;have x4:wr.cell? ⟨b5,4,none⟩=some (.slice (some ⟨gb,go,none⟩) L cg):=Zq hV.box;have x5:wr.cell? ⟨b5,5,none⟩=some (.slice A' EL.length cp):=Zq hV.box;have xl:=hV.box.lt;have y1:=hV.le _ _ HG1.out;have y2:=hV.le _ _ HK3.out
        by_cases hbM:b<n2
        rotate_left
        · obtain rfl:b=n2:=by omega
          have l3:¬((b:Int)<(b:Int)):=by omega
          clear hEL hV
          go_wp2_with fail
          go_roundw
          case rel=>exact ⟨a+1,A',cp,EL,by omega,by go_num,by rw [HEL.out,Nat.add_mul,Nat.one_mul];omega,HV.out⟩
          case measure=>simp [intOf];omega
        have l3:(b:Int)<(n2:Int):=by omega
        have l4:(0:Int)≤(b:Int):=by omega
        obtain ⟨z1,hz1⟩:∃ z,x.1[a]?=some z:=⟨_,Zg (by rw [hm1];exact haM)⟩;obtain ⟨s,rfl⟩:=Qew HX.out hz1;obtain ⟨z2,hz2⟩:∃ z,x.2[b]?=some z:=⟨_,Zg (by rw [hm2];exact hbM)⟩;obtain ⟨t,rfl⟩:=Qed HX.out hz2
        have hlen:EL.length<NC:=by
         have e1:(a+1)*n2≤n1*n2:=Nat.mul_le_mul_right _ haM;rw [Nat.add_mul,Nat.one_mul] at e1;unfold szG at hfit;rw [hm1,hm2] at hfit;omega
        have HEN:=Zh (show ∃ l' x' s' t',Qej N ls EL.length i l' c9 x' a b s' t' from ⟨l,x,s,t,HLJ.out,HX.out,hz1,hz2,by unfold Qgk;rw [HEL.out,HCL.out,hm2];omega⟩)
        obtain ⟨W2,hW2⟩:∃ W2,W2=wr.alloc (.cells #[.int .i64 ((i:Int)+1),.int .i64 (c9:Int),.int .i64 (a:Int),.int .i64 (b:Int)] 97):=⟨_,rfl⟩;have HV7:=Zh (HV.out.below (show Below wr.heap.size wr W2 by rw [hW2];exact Qae))
        have hown:=HV7.out.own;have hrd:Rds W2 4 (some ⟨wr.heap.size,0,none⟩) 1 (Qgz (i,c9,a,b)):=by rw [hW2];exact (Blk.new wr 97 #[.int .i64 ((i:Int)+1),.int .i64 (c9:Int),.int .i64 (a:Int),.int .i64 (b:Int)]).rds rfl
        have hsz:V1.heap.size≤W2.heap.size:=HV7.out.size;have HW2:=Zh hW2;clear hW2 hEL hV hz1 hz2
        go_wp2_with (at_builtin;rw [←HW2.out];with_reducible refine Qap rfl (.tmp 62) (.tmp 69) 36 rfl 97 _ 4 32 Qwt underlying36 rfl (by omega) rfl rfl hown hrd (Qoc _) (by omega) (by omega) hsz ?_)
        intro A3 c3 w8 ho8 hg8 hat8;have hB8:=HV7.out.box.grown hg8 (fun e=>by have:=(hown.lt b5 e).1;omega);have v5:w8.cell? ⟨b5,5,none⟩=some (.slice A' EL.length cp):=Zq hB8;have v6:=hB8.frozen 5;have v7:=hB8.lt;have HV8:=Zh (HV7.out.push (e:=(i,c9,a,b)) HF.out hb51 hb52 ho8 hg8 HEN.out);clear hown hrd hsz ho8 hg8 hat8 hB8
        go_wp2_with fail
        go_roundw
        case rel=>exact ⟨b+1,A3,c3,EL ++[(i,c9,a,b)],by omega,by go_num,by rw [List.length_append,HEL.out];rfl,HV8.out⟩
        case measure=>simp [intOf];omega
 · go_simp
   have hb2:Below w1.heap.size w1 (w1.alloc (.cells #[.slice none 0 0,.slice none 0 0,.slice none 0 0,.slice none 0 0,.slice none 0 0,.slice none 0 0] 38)).drew:=((Zr _ _).alloc (Zn _) _).drew;refine hK.out _ _ hb2 (fun _=>?_);clear hK K;refine Zk 4 (fun K hK=>?_);go_simp;with_reducible refine (HGT.out _ (Zb hb1 hb2)).mono ?_
   rintro r w2 ⟨G,cg,rfl,hG,hb3⟩;go_simp;have hb2':Below w1.heap.size w1 w2:=Zb hb2 hb3;refine hK.out _ _ hb2' (fun _=>?_);clear hK K;refine tz 5 15 ?_;have hBo:Blk w2 w1.heap.size 38 #[.slice none 0 0,.slice none 0 0,.slice none 0 0,.slice none 0 0,.slice none 0 0,.slice none 0 0]:=((Blk.new w1 _ _).drew).below hb3 (Blk.new w1 38 #[.slice none 0 0,.slice none 0 0,.slice none 0 0,.slice none 0 0,.slice none 0 0,.slice none 0 0]).drew.lt;obtain ⟨b5,hb5⟩:∃ b5,b5=w1.heap.size:=⟨_,rfl⟩;have hbo:Blk w2 b5 38 #[.slice none 0 0,.slice none 0 0,.slice none 0 0,.slice none 0 0,.slice none 0 0,.slice none 0 0]:=by rw [hb5];exact hBo
   have HB5:=Zh hb5;have hz3:w1.heap.size+1≤w2.heap.size:=by have:=hBo.lt;omega
   rw [←hb5];clear hb5 hBo;have z0:w2.cell? ⟨b5,0,none⟩=some (.slice none 0 0):=Zq hbo;have z1:w2.cell? ⟨b5,1,none⟩=some (.slice none 0 0):=Zq hbo;have z2:w2.cell? ⟨b5,2,none⟩=some (.slice none 0 0):=Zq hbo;have z3:w2.cell? ⟨b5,3,none⟩=some (.slice none 0 0):=Zq hbo;have z4:w2.cell? ⟨b5,4,none⟩=some (.slice none 0 0):=Zq hbo;have z5:w2.cell? ⟨b5,5,none⟩=some (.slice none 0 0):=Zq hbo;have f0:=hbo.frozen 0;have f1:=hbo.frozen 1;have f2:=hbo.frozen 2;have f3:=hbo.frozen 3;have f4:=hbo.frozen 4;have f5:=hbo.frozen 5;have zl:=hbo.lt;refine Zk 7 (fun K hK=>?_);go_simp;obtain ⟨V1,hV1⟩:∃ V1,V1=(((((w2.setCell ⟨b5,0,none⟩ (.slice A n c)).setCell ⟨b5,1,none⟩ (.slice B m d)).setCell ⟨b5,2,none⟩ (.slice C k e)).setCell ⟨b5,3,none⟩ (.slice Q L cq)).setCell ⟨b5,4,none⟩ (.slice G L cg)).setCell ⟨b5,5,none⟩ (.slice none 0 0):=⟨_,rfl⟩;rw [←hV1]
   have hBX:Blk V1 b5 38 #[.slice A n c,.slice B m d,.slice C k e,.slice Q L cq,.slice G L cg,.slice none 0 0]:=by
    have:=(((((hbo.set_ 0 (.slice A n c)).set_ 1 (.slice B m d)).set_ 2 (.slice C k e)).set_ 3 (.slice Q L cq)).set_ 4 (.slice G L cg)).set_ 5 (.slice none 0 0);rw [←hV1] at this
    simpa using this
   have hbV:Below w1.heap.size w1 V1:=by
    rw [hV1];have hle:w1.heap.size≤b5:=by rw [HB5.out];exact Zn _
    exact Bel.setCell_ (Bel.setCell_ (Bel.setCell_ (Bel.setCell_ (Bel.setCell_ (Bel.setCell_ hb2' hle) hle) hle) hle) hle) hle
   have hk9:Qaz (fun b=>b≠b5) w2 V1:=by rw [hV1];exact Qjm (fun e=>e rfl) _ _ _ _ _ _
   have hzV:V1.heap.size=w2.heap.size:=by rw [hV1];simp [World.setCell]
   refine hK.out _ _ (by rw [HB5.out];exact hbV) (fun _=>?_);clear hK K;refine Zd ?_;obtain ⟨F,hFe⟩:∃ F:Nat→Prop,F=fun b=>w1.heap.size+1≤b∧b<w2.heap.size:=⟨_,rfl⟩
   have hFF:∀ b,F b→b<V1.heap.size∧b≠b5:=fun b hb=>by
    rw [hFe] at hb;rw [hzV,HB5.out];exact ⟨by omega,by omega⟩
   have hG1:RdG (msk V1 F) G L (gatesOf N.ar ls):=by
    refine hG.le (Le.trans (Qbd (G':=F) (fun b hb=>?_)) (Qaz.msk (hk9.mono (fun b hb=>(hFF b hb).2))));rw [hFe];have h1:=hb.1;have h2:=hb.2;simp at h1;exact ⟨h1,h2⟩
   have hb51:b5<V1.heap.size:=hBX.lt
   have hb52:w1.heap.size≤b5:=by rw [HB5.out];exact Zn _
   have hFL:∀ b,F b→w1.heap.size≤b:=fun b hb=>by rw [hFe] at hb;omega
   clear hG hFe HB5 hbo hb2 hb2' hb3 hV1 hk9 hzV hz3 z0 z1 z2 z3 z4 z5 f0 f1 f2 f3 f4 f5 zl
   as_aux_lemma =>
    have HG:=Zh (show RdG (msk V1 F) G L (gatesOf N.ar ls) from hG1)
    have HF:=Zh hFF;have HFL:=Zh hFL;have hV1b:w.heap.size+1+1<V1.heap.size:=by have:=hZ.lt;have:=hbV.size;omega
    have HV0:=Zh (show OvN w1 V1 F b5 (.slice A n c) (.slice B m d) (.slice C k e) (.slice Q L cq) (.slice G L cg) N ls V1 none 0 [] from ⟨Qaz.refl _ _,Zn _,hbV,hBX,Own.nil _ _ _ _,fun q f hq=>by simp at hq⟩)
    clear hG1 hFF hFL hBX hbV HSX
    go_wp2_with fail
    go_loopw [6] (fun q V=>∃ (i:Nat) (A':Option Addr) (cp:Nat) (EL:List Ent),i≤L∧q=.int .i64 i∧EL.length=Qbf ((gatesOf N.ar ls).take i)∧OvN w1 V1 F b5 (.slice A n c) (.slice B m d) (.slice C k e) (.slice Q L cq) (.slice G L cg) N ls V A' cp EL) (fun q _=>L-(intOf q).toNat)
    case atStart=>exact ⟨0,none,0,[],Nat.zero_le _,rfl,by simp [Qbf],HV0.out⟩
    case round =>
     obtain ⟨i,A',cp,EL,hi,rfl,hEL,hV⟩:=hrel;have HV:=Zh hV;have HEL:=Zh hEL;have x4:wr.cell? ⟨b5,4,none⟩=some (.slice G L cg):=Zq hV.box;have xl:=hV.box.lt;clear hEL
     by_cases hlt:i<L
     rotate_left
     · obtain rfl:i=L:=by omega
       have x0:wr.cell? ⟨b5,0,none⟩=some (.slice A n c):=Zq hV.box;have x1:wr.cell? ⟨b5,1,none⟩=some (.slice B m d):=Zq hV.box;have x2:wr.cell? ⟨b5,2,none⟩=some (.slice C k e):=Zq hV.box;have x3:wr.cell? ⟨b5,3,none⟩=some (.slice Q i cq):=Zq hV.box;have x5:wr.cell? ⟨b5,5,none⟩=some (.slice A' EL.length cp):=Zq hV.box;have hZr:=hZ.below hV.bel hZ.lt;have hZl:=hZ.lt;have z0:wr.cell? ⟨w.heap.size+1+1,0,none⟩=some (.slice none 0 0):=Zq hZr;have z1:wr.cell? ⟨w.heap.size+1+1,1,none⟩=some (.slice none 0 0):=Zq hZr;have z2:wr.cell? ⟨w.heap.size+1+1,2,none⟩=some (.slice none 0 0):=Zq hZr;have z3:wr.cell? ⟨w.heap.size+1+1,3,none⟩=some (.slice none 0 0):=Zq hZr;have z4:wr.cell? ⟨w.heap.size+1+1,4,none⟩=some (.slice none 0 0):=Zq hZr;have z5:wr.cell? ⟨w.heap.size+1+1,5,none⟩=some (.slice none 0 0):=Zq hZr;have f0:=hZr.frozen 0;have f1:=hZr.frozen 1;have f2:=hZr.frozen 2;have f3:=hZr.frozen 3;have f4:=hZr.frozen 4;have f5:=hZr.frozen 5;clear hV
       go_wp2_with fail
       obtain ⟨w9,hw9⟩:∃ w9,w9=(((((wr.setCell ⟨w.heap.size+1+1,0,none⟩ (.slice A n c)).setCell ⟨w.heap.size+1+1,1,none⟩ (.slice B m d)).setCell ⟨w.heap.size+1+1,2,none⟩ (.slice C k e)).setCell ⟨w.heap.size+1+1,3,none⟩ (.slice Q i cq)).setCell ⟨w.heap.size+1+1,4,none⟩ (.slice G i cg)).setCell ⟨w.heap.size+1+1,5,none⟩ (.slice A' EL.length cp):=⟨_,rfl⟩;rw [←hw9]
       have hB9:Blk w9 (w.heap.size+1+1) 38 #[.slice A n c,.slice B m d,.slice C k e,.slice Q i cq,.slice G i cg,.slice A' EL.length cp]:=by
        have:=(((((hZr.set_ 0 (.slice A n c)).set_ 1 (.slice B m d)).set_ 2 (.slice C k e)).set_ 3 (.slice Q i cq)).set_ 4 (.slice G i cg)).set_ 5 (.slice A' EL.length cp);rw [←hw9] at this
        simpa using this
       have hbr:Below w.heap.size w wr:=Zb hb1 HV.out.bel
       have hb9:Below w.heap.size w w9:=by
        rw [hw9];exact Bel.setCell_ (Bel.setCell_ (Bel.setCell_ (Bel.setCell_ (Bel.setCell_ (Bel.setCell_ hbr (by omega)) (by omega)) (by omega)) (by omega)) (by omega)) (by omega)
       have hk9:Qaz (fun b=>b≠w.heap.size+1+1) wr w9:=by rw [hw9];exact Qjm (fun e=>e rfl) _ _ _ _ _ _
       obtain ⟨c0,c1,c2,c3,c4,c5⟩:w9.cell? ⟨w.heap.size+1+1,0,none⟩=some (.slice A n c)∧w9.cell? ⟨w.heap.size+1+1,1,none⟩=some (.slice B m d)∧w9.cell? ⟨w.heap.size+1+1,2,none⟩=some (.slice C k e)∧w9.cell? ⟨w.heap.size+1+1,3,none⟩=some (.slice Q i cq)∧w9.cell? ⟨w.heap.size+1+1,4,none⟩=some (.slice G i cg)∧w9.cell? ⟨w.heap.size+1+1,5,none⟩=some (.slice A' EL.length cp):=by
        refine ⟨?_,?_,?_,?_,?_,?_⟩ <;> (rw [hB9.cell];rfl)
       refine bodyPost_ret (v:=.agg #[.slice A n c,.slice B m d,.slice C k e,.slice Q i cq,.slice G i cg,.slice A' EL.length cp]) (by simp [results,results11,go_sem,c0,c1,c2,c3,c4,c5]) rfl ?_;refine ⟨G,cg,A',cp,EL,rfl,?_,(HV.out.own.keep (fun b hb=>hk9 b (by have:=(HV.out.own.lt b hb).1;have:=hV1b;omega) (HV.out.own.lt b hb).2)).rds,?_,HV.out.row,hb9⟩
       · exact HG.out.le ((HV.out.kept.trans (hk9.mono (fun b hb=>by have:=HFL.out b hb;omega)) HV.out.size).msk.trans (Qbn _ _))
       · rw [HEL.out,List.take_of_length_le (by unfold gatesOf;simp [HLL.out])]
     obtain ⟨row,gb,go,rA,rn,rc,hrow,rfl,g1,g2,g3⟩:=HG.out.at_ hlt;obtain ⟨l,hl⟩:∃ l,ls[i]?=some l:=⟨_,Zg (by rw [HLL.out];exact hlt)⟩
     have hre:row=gateRow N.ar l:=by
      rw [Qba hl] at hrow;exact (Option.some.inj hrow).symm
     subst hre;have hM:(gateRow N.ar l).length=rn:=g2.1
     have hMb:rn≤4096:=by
      have h1:=HP.out.lvl l (Zm hl);have h2:=Qbp (l:=l) (n:=(N.vs.length:Int)) (fun x hx=>h1.hi x hx) (by omega);rw [←hM,Qan];omega
     have HG1:=Zh g1;have HG2:=Zh g2;have HM:=Zh hM;have HLJ:=Zh hl;have i1:(i:Int)<(L:Int):=by omega
     have i2:(0:Int)≤(i:Int):=by omega
     clear hV g1 g2 hl hrow hM
     go_wp2_with fail
     go_loopw [7] (fun q V=>∃ (c9:Nat) (A':Option Addr) (cp:Nat) (EL:List Ent),c9≤rn∧q=.int .i64 c9∧EL.length=Qbf ((gatesOf N.ar ls).take i)+Qda ((gateRow N.ar l).take c9)∧OvN w1 V1 F b5 (.slice A n c) (.slice B m d) (.slice C k e) (.slice Q L cq) (.slice (some ⟨gb,go,none⟩) L cg) N ls V A' cp EL) (fun q _=>rn-(intOf q).toNat)
     case atStart=>exact ⟨0,A',cp,EL,Nat.zero_le _,rfl,by rw [HEL.out];simp [Qda],HV.out⟩
     case round =>
      clear HV HEL x4 xl;obtain ⟨c9,A',cp,EL,hc,rfl,hEL,hV⟩:=hrel;have HV:=Zh hV;have HEL:=Zh hEL;have x4:wr.cell? ⟨b5,4,none⟩=some (.slice (some ⟨gb,go,none⟩) L cg):=Zq hV.box;have xl:=hV.box.lt;have y1:=hV.le _ _ HG1.out;clear hEL hV
      by_cases hcM:c9<rn
      rotate_left
      · obtain rfl:c9=rn:=by omega
        have j1:¬((c9:Int)<(c9:Int)):=by omega
        go_wp2_with fail
        go_roundw
        case rel=>exact ⟨i+1,A',cp,EL,by omega,by go_num,by rw [Qbr (Qba HLJ.out),HEL.out,List.take_of_length_le (l:=gateRow N.ar l) (by rw [HM.out];exact Zn _)],HV.out⟩
        case measure=>simp [intOf];omega
      obtain ⟨x,rb,ro,A1,n1,c1,A2,n2,c2,hx,rfl,k1,k2,k3,k4,_⟩:=HG2.out.at_ hcM;have hm1:x.1.length=n1:=k2.1;have hm2:x.2.length=n2:=k4.1;have hgx:=Qbg hx
      have hfit:EL.length+szG x≤NC:=by
       have e1:=Qeh (gateRow N.ar l) (c9+1);have e2:=Qdi (gatesOf N.ar ls) (i+1);rw [Qbr (Qba HLJ.out),←HNC.out] at e2;rw [Qbl hx] at e1;have:=HEL.out;omega
      have HK1:=Zh k1;have HK3:=Zh k3;have HX:=Zh hx;have j1:(c9:Int)<(rn:Int):=by omega
      have j2:(0:Int)≤(c9:Int):=by omega
      have hn1:n1≤16384:=by omega
      have hn2:n2≤16384:=by omega
      have HCL:=Zh (show EL.length=Qbf ((gatesOf N.ar ls).take i)+Qda ((gateRow N.ar l).take c9) from HEL.out)
      obtain ⟨E0,hE0⟩:∃ E0,E0=EL.length:=⟨_,rfl⟩;rw [←hE0] at HCL hfit;clear k1 k2 k3 k4 hx hE0 hgx
      go_wp2_with fail
      go_loopw [8] (fun q V=>∃ (a:Nat) (A':Option Addr) (cp:Nat) (EL:List Ent),a≤n1∧q=.int .i64 a∧EL.length=E0+a*n2∧OvN w1 V1 F b5 (.slice A n c) (.slice B m d) (.slice C k e) (.slice Q L cq) (.slice (some ⟨gb,go,none⟩) L cg) N ls V A' cp EL) (fun q _=>n1-(intOf q).toNat)
      case atStart=>exact ⟨0,A',cp,EL,Nat.zero_le _,rfl,by rw [HEL.out,HCL.out];omega,HV.out⟩
      case round =>
       clear HV HEL x4 xl y1;obtain ⟨a,A',cp,EL,ha,rfl,hEL,hV⟩:=hrel;have HV:=Zh hV;have HEL:=Zh hEL;have x4:wr.cell? ⟨b5,4,none⟩=some (.slice (some ⟨gb,go,none⟩) L cg):=Zq hV.box;have xl:=hV.box.lt;have y1:=hV.le _ _ HG1.out;have y2:=hV.le _ _ HK1.out;clear hEL hV
       by_cases haM:a<n1
       rotate_left
       · obtain rfl:a=n1:=by omega
         have l1:¬((a:Int)<(a:Int)):=by omega
         go_wp2_with fail
         go_roundw
         case rel=>exact ⟨c9+1,A',cp,EL,by omega,by go_num,by rw [Qbl HX.out,HEL.out,HCL.out];unfold szG;rw [hm1,hm2,Nat.add_assoc],HV.out⟩
         case measure=>simp [intOf];omega
       have l1:(a:Int)<(n1:Int):=by omega
       have l2:(0:Int)≤(a:Int):=by omega
       go_wp2_with fail
       go_loopw [9] (fun q V=>∃ (b:Nat) (A':Option Addr) (cp:Nat) (EL:List Ent),b≤n2∧q=.int .i64 b∧EL.length=E0+a*n2+b∧OvN w1 V1 F b5 (.slice A n c) (.slice B m d) (.slice C k e) (.slice Q L cq) (.slice (some ⟨gb,go,none⟩) L cg) N ls V A' cp EL) (fun q _=>n2-(intOf q).toNat)
       case atStart=>exact ⟨0,A',cp,EL,Nat.zero_le _,rfl,by rw [HEL.out];omega,HV.out⟩
       case round =>
        clear HV HEL x4 xl y1 y2;obtain ⟨b,A',cp,EL,hb,rfl,hEL,hV⟩:=hrel;have HV:=Zh hV;have HEL:=Zh hEL;have x4:wr.cell? ⟨b5,4,none⟩=some (.slice (some ⟨gb,go,none⟩) L cg):=Zq hV.box;have x5:wr.cell? ⟨b5,5,none⟩=some (.slice A' EL.length cp):=Zq hV.box;have xl:=hV.box.lt;have y1:=hV.le _ _ HG1.out;have y2:=hV.le _ _ HK3.out
        by_cases hbM:b<n2
        rotate_left
        · obtain rfl:b=n2:=by omega
          have l3:¬((b:Int)<(b:Int)):=by omega
          clear hEL hV
          go_wp2_with fail
          go_roundw
          case rel=>exact ⟨a+1,A',cp,EL,by omega,by go_num,by rw [HEL.out,Nat.add_mul,Nat.one_mul];omega,HV.out⟩
          case measure=>simp [intOf];omega
        have l3:(b:Int)<(n2:Int):=by omega
        have l4:(0:Int)≤(b:Int):=by omega
        obtain ⟨z1,hz1⟩:∃ z,x.1[a]?=some z:=⟨_,Zg (by rw [hm1];exact haM)⟩;obtain ⟨s,rfl⟩:=Qew HX.out hz1;obtain ⟨z2,hz2⟩:∃ z,x.2[b]?=some z:=⟨_,Zg (by rw [hm2];exact hbM)⟩;obtain ⟨t,rfl⟩:=Qed HX.out hz2
        have hlen:EL.length<NC:=by
         have e1:(a+1)*n2≤n1*n2:=Nat.mul_le_mul_right _ haM;rw [Nat.add_mul,Nat.one_mul] at e1;unfold szG at hfit;rw [hm1,hm2] at hfit;omega
        have HEN:=Zh (show ∃ l' x' s' t',Qej N ls EL.length i l' c9 x' a b s' t' from ⟨l,x,s,t,HLJ.out,HX.out,hz1,hz2,by unfold Qgk;rw [HEL.out,HCL.out,hm2];omega⟩)
        obtain ⟨W2,hW2⟩:∃ W2,W2=wr.alloc (.cells #[.int .i64 ((i:Int)+1),.int .i64 (c9:Int),.int .i64 (a:Int),.int .i64 (b:Int)] 97):=⟨_,rfl⟩;have HV7:=Zh (HV.out.below (show Below wr.heap.size wr W2 by rw [hW2];exact Qae))
        have hown:=HV7.out.own;have hrd:Rds W2 4 (some ⟨wr.heap.size,0,none⟩) 1 (Qgz (i,c9,a,b)):=by rw [hW2];exact (Blk.new wr 97 #[.int .i64 ((i:Int)+1),.int .i64 (c9:Int),.int .i64 (a:Int),.int .i64 (b:Int)]).rds rfl
        have hsz:V1.heap.size≤W2.heap.size:=HV7.out.size;have HW2:=Zh hW2;clear hW2 hEL hV hz1 hz2
        go_wp2_with (at_builtin;rw [←HW2.out];with_reducible refine Qap rfl (.tmp 62) (.tmp 69) 36 rfl 97 _ 4 32 Qwt underlying36 rfl (by omega) rfl rfl hown hrd (Qoc _) (by omega) (by omega) hsz ?_)
        intro A3 c3 w8 ho8 hg8 hat8;have hB8:=HV7.out.box.grown hg8 (fun e=>by have:=(hown.lt b5 e).1;omega);have v5:w8.cell? ⟨b5,5,none⟩=some (.slice A' EL.length cp):=Zq hB8;have v6:=hB8.frozen 5;have v7:=hB8.lt;have HV8:=Zh (HV7.out.push (e:=(i,c9,a,b)) HF.out hb51 hb52 ho8 hg8 HEN.out);clear hown hrd hsz ho8 hg8 hat8 hB8
        go_wp2_with fail
        go_roundw
        case rel=>exact ⟨b+1,A3,c3,EL ++[(i,c9,a,b)],by omega,by go_num,by rw [List.length_append,HEL.out];rfl,HV8.out⟩
        case measure=>simp [intOf];omega
end Go.Proofs.YthoagdpakddbdaaGreatDoor
