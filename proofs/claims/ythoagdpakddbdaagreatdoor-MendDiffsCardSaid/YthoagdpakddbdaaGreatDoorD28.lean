/- Parts of the proof: MdN, MdJ, Pp. -/
import Derived.Test.YthoagdpakddbdaaGreatDoorD1
import Derived.Test.YthoagdpakddbdaaGreatDoorD5
import Derived.Test.YthoagdpakddbdaaGreatDoorD14
import Derived.Test.YthoagdpakddbdaaGreatDoorD16
import Derived.Test.YthoagdpakddbdaaGreatDoorD25
import Derived.Test.YthoagdpakddbdaaGreatDoorD27
namespace Go.Proofs.YthoagdpakddbdaaGreatDoor
open Go.RowKit Go.Proofs.Tryz
attribute [local go_sem ↓] Go.wp_at_zero Go.wp_at_succ
theorem app_take {N:Qaj}{l:List Chn}{k:Nat}{c:Chn} (h:l[k]?=some c):Qfg N (l.take (k+1))=Qqq (Qfg N (l.take k)) c:=by
 rw [List.take_succ_eq_append_getElem (Zs h).1,(Zs h).2,Qms]
 rfl
theorem Qch.pre {N:Qaj}{l:List Chn}(h:Qch N l)(k:Nat):Qch N (l.take k):=(Qmy (l:=l.take k) (m:=l.drop k) (by rw [List.take_append_drop];exact h)).1
theorem Qch.at_ {N:Qaj}{l:List Chn}(h:Qch N l){k:Nat}{c:Chn} (hc:l[k]?=some c):ChOk (Qfg N (l.take k)) c:=(h.all c (Zm hc)).shape (Qcl (h.pre k))
theorem Qbs.nat {N:Qaj}(hN:Qau N){c:Chn}{p i:Nat}{t:Qdb}(h:Qbs N c p i t):∃ (ti tO ci co:Nat) (cs:List Int),t=⟨ti,tO,cs⟩∧c.2.2.1=ci∧c.2.2.2.1=co∧ci<ti∧co<tO∧i=ci*tO+co:=by
 have ht:=hN.tabs t (Zm h.tt);obtain ⟨a,b,cs⟩:=t;have h0:=ht.i0;have h1:=ht.o0;have h2:=h.in0;have h3:=h.in1;have h4:=h.out0;have h5:=h.out1;have h6:=h.i;simp only at h0 h1 h3 h5 h6;refine ⟨a.toNat,b.toNat,c.2.2.1.toNat,c.2.2.2.1.toNat,cs,?_,by omega,by omega,by omega,by omega,h6⟩;rw [Int.toNat_of_nonneg h0,Int.toNat_of_nonneg h1]
theorem Qaz.transF {G G':Nat→Prop}{w V V':World}(h:Qaz G w V)(g:Qaz G' V V')(hs:∀ b,G b→b<w.heap.size→G' b)(hz:w.heap.size≤V.heap.size):Qaz G w V':=fun b hb hl=>(g b (hs b hb hl) (Nat.lt_of_lt_of_le hl hz)).trans (h b hb hl)
structure ApV (w:World) (F:Nat→Prop) (g:Nat) (V:World) (M:Qaj):Prop where
 kept:Qaz (fun b=>¬F b) w V
 size:w.heap.size≤V.heap.size
 gr:∃ F':Nat→Prop,(∀ b,F' b→F b∨w.heap.size≤b)∧GrO V F' g M
 bel:∀ B,B≤w.heap.size→(∀ b,F b→B≤b)→Below B w V
section
variable {w V V':World} {F F' F2:Nat→Prop} {g:Nat} {M M':Qaj}
theorem ApV.start (h:GrO w F g M):ApV w F g w M:=⟨Qaz.refl _ _,Zn _,⟨F,fun _ h=>.inl h,h⟩,fun _ _ _=>Zr _ _⟩
theorem ApV.below (h:ApV w F g V M)(hb:Below V.heap.size V V'):ApV w F g V' M:=by
 obtain ⟨F',h1,h2⟩:=h.gr;exact ⟨h.kept.trans (Qaz.below hb) h.size,Nat.le_trans h.size hb.size,⟨F',h1,h2.below hb⟩,fun B hB hF=>(h.bel B hB hF).trans (hb.mono (Nat.le_trans hB h.size))⟩
theorem ApV.step (h:ApV w F g V M)(hF:∀ b,F' b→F b∨w.heap.size≤b)(hF2:∀ b,F2 b→F' b∨V.heap.size≤b)(hg:GrO V' F2 g M') (hk:Qaz (fun b=>¬F' b) V V') (hz:V.heap.size≤V'.heap.size) (hb:∀ B,B≤V.heap.size→(∀ b,F' b→B≤b)→Below B V V'):ApV w F g V' M' :=
 ⟨h.kept.transF hk (fun b hb hl hn=>by rcases hF b hn with h1|h1;exact hb h1;omega) h.size,Nat.le_trans h.size hz,
  ⟨F2,fun b hb=>by
   rcases hF2 b hb with h1|h1
   · exact hF b h1
   · exact .inr (Nat.le_trans h.size h1),hg⟩,
  fun B hB hFB=>(h.bel B hB hFB).trans (hb B (Nat.le_trans hB h.size) (fun b hb=>by
   rcases hF b hb with h1|h1
   · exact hFB b h1
   · omega))⟩
end
set_option maxRecDepth 20000 in
set_option maxHeartbeats 4000000 in
theorem apply_ok (w:World)(g:Nat)(N:Qaj)(F:Nat→Prop)(A:Option Addr)(n cA:Nat)(l:List Chn)(hg:GrO w F g N) (hl:Qha (msk w (fun b=>¬F b)) A n l) (hb:Qch N l) (hl256:l.length≤256) :
 Calls prog 49 #[.pointer (some ⟨g,0,none⟩),.slice A n cA] w fun r w'=>r=.returned .nilIface∧ApV w F g w' (Qfg N l):=by
 have hln:=hl.1;have HL:=Zh hl;have HB:=Zh hb;have hok:=hg.ok;have HOK:=Zh hok;have HCK:=Zh (Qon w g N A n cA l hg.rd hok (hl.le (Qbn _ _)) (by omega) [] 0 (hb.ck hl256));have HAP:=Zh (ApV.start hg);clear hg hl hb hok
 go_enter func49,ntmps49
 go_wp2_with fail
 with_reducible refine HCK.out.mono ?_
 rintro r w1 ⟨v,rfl,he,hb1⟩
 obtain rfl:v=.nilIface:=by
  rcases he with ⟨_,h⟩|⟨h,_⟩
  · exact h
  · exact absurd rfl h
 have HA1:=Zh (HAP.out.below hb1);clear HCK HAP he hb1
 go_wp2_with fail
 go_loopw [17] (fun q V=>∃ j:Nat,j≤n∧q=.int .i64 j∧ApV w F g V (Qfg N (l.take j))) (fun q _=>n-(intOf q).toNat)
 case atStart=>exact ⟨0,Nat.zero_le _,rfl,by simpa [Qfg] using HA1.out⟩
 case round =>
  clear HA1;obtain ⟨j,hj,rfl,hav⟩:=hrel;have HAV:=Zh hav;clear hav
  by_cases hlt:j<n
  rotate_left
  · obtain rfl:j=n:=by omega
    have i3:¬((j:Int)<(j:Int)):=by omega
    go_wp2_with fail
    go_ret
    refine ⟨rfl,?_⟩;have:=HAV.out;rw [List.take_of_length_le (by omega)] at this;exact this
  obtain ⟨lb,lo,x,y,z,u,v,rfl,hc,c1,c2,c3,c4,c5⟩:=(HL.out.le (HAV.out.kept.msk.trans (Qbn _ _))).at_ hlt;have hco:=HB.out.at_ hc;have HM':=Zh (app_take (N:=N) hc);obtain ⟨M,hM⟩:∃ M,M=Qfg N (l.take j):=⟨_,rfl⟩;rw [←hM] at HAV hco HM';have HMO:=Zh (show Qau M by rw [hM];exact Qrz HOK.out (HB.out.pre j))
  have i3:(j:Int)<(n:Int):=by omega
  have i4:(0:Int)≤(j:Int):=by omega
  have hcl:=Qak c1;simp only at hcl;clear hc hM
  rcases hco with ⟨a,hs⟩|⟨p,i,t,hbn⟩
  · have hk:=hs.k;have hat:=hs.at_;have hwk:=hs.w
    simp only at hk hat;have hwk:wOk v=true:=hwk;subst hk;subst hat;obtain ⟨⟨ax,ay,az⟩,ha⟩:∃ e,M.ar[a]?=some e:=⟨_,Zg hs.lt⟩;have HE:=Zh (hs.eq ha);have HAR:=Zh ha;have HWK:=Zh hwk;clear hs ha hwk
    go_wp2_with fail
    (refine Qac ?_;intro w3 hw3)
    have HA3:=Zh (HAV.out.below (show Below wr.heap.size wr w3 by rw [hw3];exact Qae))
    clear hw3 c1 c2 c3 c4 c5 hcl HAV;obtain ⟨F',hF',hGr⟩:=HA3.out.gr;have HF':=Zh hF';have HSET:=Zh (gSet_ok g a ax ay az v M F' w3 hGr HAR.out HWK.out);clear hGr hF';with_reducible refine HSET.out.mono ?_
    rintro r w4 ⟨rfl,k1,k2,k3,k4⟩
    have HA4:=Zh (show ApV w F g w4 (Qfg N (l.take (j+1))) by
     rw [HM'.out,HE.out];exact HA3.out.step HF'.out (fun _ h=>.inl h) k1 k2 k3 (fun B _ hB=>k4 B hB))
    clear k1 k2 k3 k4 HSET
    go_wp2_with fail
    go_roundw
    case rel=>exact ⟨j+1,by omega,by go_num,HA4.out⟩
    case measure=>simp [intOf];omega
  · have hk:=hbn.k;have hat:=hbn.at_;have hwk:=hbn.w
    simp only at hk hat;have hwk:wOk v=true:=hwk;subst hk;subst hat;have HE:=Zh hbn.eq;have htt:=hbn.tt;obtain ⟨ti,tO,ci,co,cs,rfl,e1,e2,q1,q2,rfl⟩:=hbn.nat HMO.out;simp only at e1 e2;subst e1;subst e2;have HTT:=Zh htt;have HWK:=Zh hwk;clear hbn htt hwk
    go_wp2_with fail
    (refine Qac ?_;intro w3 hw3)
    have HA3:=Zh (HAV.out.below (show Below wr.heap.size wr w3 by rw [hw3];exact Qae))
    clear hw3 c1 c2 c3 c4 c5 hcl HAV;obtain ⟨F',hF',hGr⟩:=HA3.out.gr;have HF':=Zh hF';have HSET:=Zh (gBend_ok g p ci co ti tO cs v M F' w3 hGr HTT.out q1 q2 HWK.out);clear hGr hF';with_reducible refine HSET.out.mono ?_
    rintro r w4 ⟨rfl,⟨F2,k0,k1⟩,k2,k3,k4⟩
    have HA4:=Zh (show ApV w F g w4 (Qfg N (l.take (j+1))) by
     rw [HM'.out,HE.out];exact HA3.out.step HF'.out k0 k1 k2 k3 k4)
    clear k0 k1 k2 k3 k4 HSET
    go_wp2_with fail
    go_roundw
    case rel=>exact ⟨j+1,by omega,by go_num,HA4.out⟩
    case measure=>simp [intOf];omega
theorem tb_mark {ls:List (List Int)} {f g:Nat→Nat→Bool} {i q0:Nat} {l:List Int} (hl:ls[i]?=some l) (h0:∀ k q,k≠i→g k q=f k q) (h1:∀ q,q<(Qai l).toNat→g i q=(f i q || q == q0)) :
 tb ls g=(tb ls f).set i (((List.range (Qai l).toNat).map (f i)).set q0 true):=by
 apply List.ext_getElem?
 intro k
 by_cases e:i=k
 · subst e
   rw [List.getElem?_set_self (by rw [Qcs];exact (Zs hl).1),Qcw hl]
   congr 1
   apply List.ext_getElem?
   intro q
   by_cases hq:q<(Qai l).toNat
   · rw [List.getElem?_map,List.getElem?_range hq,Option.map_some,h1 q hq]
     by_cases e2:q0=q
     · subst e2
       rw [List.getElem?_set_self (by simpa using hq)];simp
     · rw [List.getElem?_set_ne e2,List.getElem?_map,List.getElem?_range hq,Option.map_some]
       congr 1
       have:(q == q0)=false:=by simpa using fun e=>e2 e.symm
       rw [this,Bool.or_false]
   · rw [List.getElem?_eq_none (by simp;omega),List.getElem?_eq_none (by simp;omega)]
 · rw [List.getElem?_set_ne e]
   cases hk:ls[k]? with
   | none=>rw [List.getElem?_eq_none (by rw [Qcs];exact List.getElem?_eq_none_iff.1 hk),List.getElem?_eq_none (by rw [Qcs];exact List.getElem?_eq_none_iff.1 hk)]
   | some l' =>
    rw [Qcw hk,Qcw hk]
    congr 1
    exact List.map_congr_left (fun q _=>h0 k q (fun e'=>e e'.symm))
def mrk (ls:List (List Int)) (f:Nat→Nat→Bool) (a b:Nat) (i q:Nat):Bool:=f i q || (Qaf (ls.getD i []) (a:Int) == (q:Int) && Qaf (ls.getD i []) (b:Int) == (q:Int))
def Qfj (ls:List (List Int)) (f:Nat→Nat→Bool) (a b k:Nat) (i q:Nat):Bool:=if i<k then mrk ls f a b i q else f i q
theorem Qub (ls:List (List Int)) (f:Nat→Nat→Bool) (a b:Nat):Qfj ls f a b 0=f:=by
 funext i q
 unfold Qfj;rw [if_neg (by omega)]
theorem Qwh (ls:List (List Int)) (f:Nat→Nat→Bool) (a b:Nat):tb ls (Qfj ls f a b ls.length)=tb ls (mrk ls f a b):=Qdh (fun i l hl q _=>by
 unfold Qfj;rw [if_pos (Zs hl).1])
theorem Qwu {ls:List (List Int)} {f:Nat→Nat→Bool} {a b i z:Nat} {l:List Int} (hl:ls[i]?=some l) (ha:Qaf l (a:Int)=(z:Int)) (hb:Qaf l (b:Int)=(z:Int)) :
 tb ls (Qfj ls f a b (i+1))=(tb ls (Qfj ls f a b i)).set i (((List.range (Qai l).toNat).map (Qfj ls f a b i i)).set z true):=by
 refine tb_mark hl (fun k q hk=>?_) (fun q _=>?_)
 · unfold Qfj
   by_cases e:k<i
   · rw [if_pos e,if_pos (by omega)]
   · rw [if_neg e,if_neg (by omega)]
 · unfold Qfj
   rw [if_pos (by omega),if_neg (by omega)];unfold mrk;rw [Qcx hl,ha,hb,Bool.and_self]
   congr 1
   by_cases e:q=z
   · subst e;simp
   · have e1:(q == z)=false:=by simpa using e
     have e2:((z:Int) == (q:Int))=false:=by simp;omega
     rw [e1,e2]
theorem mrkTo_no {ls:List (List Int)} {f:Nat→Nat→Bool} {a b i:Nat} {l:List Int} (hl:ls[i]?=some l) (h:Qaf l (a:Int)≠Qaf l (b:Int)):tb ls (Qfj ls f a b (i+1))=tb ls (Qfj ls f a b i):=by
 refine Qdh (fun k l' hl' q _=>?_);unfold Qfj
 by_cases e:k<i
 · rw [if_pos e,if_pos (by omega)]
 · by_cases e2:k=i
   · subst e2
     rw [if_pos (by omega),if_neg (by omega)];unfold mrk;rw [Qcx hl]
     have:(Qaf l (a:Int) == (q:Int) && Qaf l (b:Int) == (q:Int))=false:=by
      rw [Bool.and_eq_false_iff]
      by_cases e3:Qaf l (a:Int)=(q:Int)
      · right
        simpa using fun e4=>h (e3.trans e4.symm)
      · left
        simpa using e3
     rw [this,Bool.or_false]
   · rw [if_neg e,if_neg (by omega)]
structure MkW (w:World) (B T:Nat) (cs:List Value) (bs:List Nat) (rows:List (List Bool)) (V:World):Prop where
 tl:TlW V B T cs bs rows
 kept:Qaz (fun b=>b ∉ bs) w V
 size:w.heap.size≤V.heap.size
 bel:Below B w V
set_option maxRecDepth 20000 in
set_option maxHeartbeats 4000000 in
theorem Qvu (w:World)(B T L cq n a b:Nat)(Q:Option Addr)(cs:List Value)(bs:List Nat) (ls:List (List Int)) (f:Nat→Nat→Bool) (hT:TlW w B T cs bs (tb ls f)) (hq:RdT (msk w (fun k=>k ∉ bs)) Q L ls) (hL:L≤1000000) (hn:n≤1000000) (hlv:∀ l∈ls,Qfb n l) (ha:a<n) (hb:b<n) :
 Calls prog 67 #[.slice (some ⟨T,0,none⟩) L L,.slice Q L cq,.int .i64 a,.int .i64 b] w fun r w'=>r=.returned (.tuple #[])∧MkW w B T cs bs (tb ls (mrk ls f a b)) w':=by
 have HQ:=Zh hq;have HLV:=Zh hlv;have hll:=hq.1;have HT:=Zh (show MkW w B T cs bs (tb ls (Qfj ls f a b 0)) w from ⟨by rw [Qub];exact hT,Qaz.refl _ _,Zn _,Zr _ _⟩)
 clear hT hq hlv;have a0:¬((a:Int)<0):=by omega
 have b0:¬((b:Int)<0):=by omega
 have a1:(0:Int)≤(a:Int):=by omega
 have b1:(0:Int)≤(b:Int):=by omega
 go_enter func67,ntmps67
 go_wp2_with fail
 go_loopw [13] (fun q V=>∃ i:Nat,i≤L∧q=.int .i64 i∧MkW w B T cs bs (tb ls (Qfj ls f a b i)) V) (fun q _=>L-(intOf q).toNat)
 case atStart=>exact ⟨0,Nat.zero_le _,rfl,HT.out⟩
 case round =>
  clear HT;obtain ⟨i,hi,rfl,hm⟩:=hrel;have HM:=Zh hm;clear hm
  by_cases hlt:i<L
  rotate_left
  · obtain rfl:i=L:=by omega
    have i3:¬((i:Int)<(i:Int)):=by omega
    go_wp2_with fail
    go_end0
    refine ⟨rfl,?_⟩;have:=HM.out;rw [←hll,Qwh] at this;exact this
  obtain ⟨l,hl⟩:∃ l,ls[i]?=some l:=⟨_,Zg (by rw [hll];exact hlt)⟩;have hlo:=HLV.out l (Zm hl);obtain ⟨qb,qo,A2,n2,c2,l',rfl,hl',q1,q2,q3,q4⟩:=(HQ.out.le (HM.out.kept.msk.trans (Qbn _ _))).at_ hlt;rw [hl] at hl'
  cases hl'
  obtain rfl:n2=n:=by rw [←q2.1];exact hlo.len
  obtain ⟨rb,ro,za,rfl,hza,d1⟩:=q2.at_ ha;obtain ⟨rb',ro',zb,e',hzb,d2⟩:=q2.at_ hb
  cases e'
  have ma:=Zm hza;obtain ⟨z,rfl⟩:∃ z:Nat,za=z:=⟨za.toNat,by have:=hlo.lo _ ma;omega⟩;have hzM:z<(Qai l).toNat:=by have:=Qmo ma;omega
  have ea:Qaf l (a:Int)=(z:Int):=Qbk hza;have eb:Qaf l (b:Int)=zb:=Qbk hzb;obtain ⟨bi,hbi,hcs,hbk,hBb,hbT⟩:=HM.out.tl.get (Qcw (f:=Qfj ls f a b i) hl);have hcc:=HM.out.tl.cell hcs;rw [List.length_map,List.length_range] at hcc;have hfr:=hbk.frozen z;obtain ⟨vb,hvb⟩:∃ vb:Bool,((List.range (Qai l).toNat).map (Qfj ls f a b i i))[z]?=some vb:=⟨_,Zg (by simpa using hzM)⟩;have hcb:=hbk.cellB hvb;obtain ⟨M,hMe⟩:∃ M,M=(Qai l).toNat:=⟨_,rfl⟩;rw [←hMe] at hcc hzM;have i3:(i:Int)<(L:Int):=by omega
  have i4:(0:Int)≤(i:Int):=by omega
  have i5:¬((L:Int)≤(i:Int)):=by omega
  have i6:¬((n2:Int)≤(a:Int)):=by omega
  have i7:¬((n2:Int)≤(b:Int)):=by omega
  have i8:(a:Int)<(n2:Int):=by omega
  have i9:(b:Int)<(n2:Int):=by omega
  have j1:(0:Int)≤(z:Int):=by omega
  have j2:(z:Int)<(M:Int):=by omega
  have HLK:=Zh hl;have HEA:=Zh ea;have HEB:=Zh eb;have HBI:=Zh hbi;clear hl hlo q2 q3 q4 ma hza hzb ea eb hbi hcs hbk hMe hvb
  by_cases hz:(z:Int)=zb
  · subst hz
    have HM2:=Zh (show MkW w B T cs bs (tb ls (Qfj ls f a b (i+1))) (wr.setCell ⟨bi,z,none⟩ (.bool true)) by
     have hmm:=HM.out;rw [Qwu HLK.out HEA.out HEB.out];exact ⟨hmm.tl.mark HBI.out (Qcw HLK.out) true,hmm.kept.trans (Qaz.set _ _ _ _ (fun h=>h (Zm HBI.out))) hmm.size,by simpa [World.setCell] using hmm.size,hmm.bel.setCell hBb _⟩)
    clear HM
    go_wp2_with fail
    go_roundw
    case rel=>exact ⟨i+1,by omega,by go_num,HM2.out⟩
    case measure=>simp [intOf];omega
  · have HM2:=Zh (show MkW w B T cs bs (tb ls (Qfj ls f a b (i+1))) wr by
     rw [mrkTo_no HLK.out (by rw [HEA.out,HEB.out];exact hz)];exact HM.out)
    clear HM
    go_wp2_with fail
    go_roundw
    case rel=>exact ⟨i+1,by omega,by go_num,HM2.out⟩
    case measure=>simp [intOf];omega
section
variable {w V V':World} {B T:Nat} {cs:List Value} {bs:List Nat} {rows rows':List (List Bool)}
theorem MkW.start (h:TlW w B T cs bs rows):MkW w B T cs bs rows w:=⟨h,Qaz.refl _ _,Zn _,Zr _ _⟩
theorem MkW.trans (h:MkW w B T cs bs rows V)(g:MkW V B T cs bs rows' V'):MkW w B T cs bs rows' V':=⟨g.tl,h.kept.trans g.kept h.size,Nat.le_trans h.size g.size,h.bel.trans g.bel⟩
theorem MkW.below (h:MkW w B T cs bs rows V)(hb:Below V.heap.size V V'):MkW w B T cs bs rows V':=⟨h.tl.below hb,h.kept.trans (Qaz.below hb) h.size,Nat.le_trans h.size hb.size,h.bel.trans (hb.mono (by have:=h.tl.box.lt;have:=h.tl.lo;omega))⟩
theorem MkW.le (h:MkW w B T cs bs rows V):Le (msk w (fun b=>b ∉ bs)) V:=h.kept.msk.trans (Qbn _ _)
end
theorem Qjr {W W':World}{G G':Nat→Prop}(h:∀ b,G b→G' b)(hl:Le W W'):Le (msk W G) (msk W' G'):=fun _ _ hc=>Qar.2 ⟨h _ (Qar.1 hc).1,hl _ _ (Qar.1 hc).2⟩
theorem Qaz.blkM {G:Nat→Prop}{v V:World}{g:Nat}{t:TypeId}{cs:Array Value}(h:Qaz G v V)(hb:Blk v g t cs)(hg:G g):Blk V g t cs:=(h g hg hb.lt).trans hb
theorem infoQ:(Tryz.prog.info? 80).map (fun i=>(i.zero,i.size,i.bytes))=some (some (.slice none 0 0),1,24):=by kernel_rfl
theorem Qoa (n:Nat)(hn:n≤1000000)(W:World):(Instr.makeSlice 40 (.int .i64 (n:Int)) (.int .i64 (n:Int))).run prog W=.ok (.slice (some ⟨W.heap.size,0,none⟩) n n) (W.alloc (.cells (Qbc (.slice none 0 0) n) 80)) :=
 Qec (P:=prog) 40 80 (.slice none 0 0) 24 infoQ underlying40 rfl n (by omega) (by omega) .i64 .i64 W
def noM (_i _q:Nat):Bool:=false
theorem Qxm {ls:List (List Int)} {i:Nat} {l:List Int} (h:ls[i]?=some l):(tb ls noM)[i]?=some (List.replicate (Qai l).toNat false):=by
 rw [Qcw h]
 congr 1
 apply List.ext_getElem?
 intro q
 by_cases hq:q<(Qai l).toNat
 · rw [List.getElem?_map,List.getElem?_range hq,List.getElem?_replicate,if_pos hq]
   rfl
 · rw [List.getElem?_eq_none (by simp;omega),List.getElem?_eq_none (by simp;omega)]
theorem TlW.push {W:World}{B T:Nat}{cs:List Value}{bs:List Nat} {rows:List (List Bool)} (h:TlW W B T cs bs rows) {M:Nat} (hc:rows.length<cs.length) :
 TlW ((W.setCell ⟨T,rows.length,none⟩ (.slice (some ⟨W.heap.size,0,none⟩) M M)).alloc (.cells (Qbc (.bool false) M) 4)) B T (cs.set rows.length (.slice (some ⟨W.heap.size,0,none⟩) M M)) (bs ++[W.heap.size]) (rows ++[List.replicate M false]):=by
 have hz:Qbc (.bool false) M=Qco (List.replicate M false):=by simp [Qbc,Qco]
 have hbl:∀ b∈bs,b<W.heap.size:=fun b hb=>by
  obtain ⟨i,hi⟩:=List.getElem?_of_mem hb;obtain ⟨r,hr⟩:∃ r,rows[i]?=some r:=⟨_,Zg (by rw [←h.n];exact (Zs hi).1)⟩;exact (h.row i b r hi hr).lt
 have hTl:=h.box.lt;have hTb:∀ b∈bs,T≠b:=fun b hb e=>(h.blo b hb).2 e.symm
 refine ⟨h.lo,?_,by simp [h.n],fun i b r h1 h2=>?_,fun i b r h1 h2=>?_,fun b hb=>?_,?_⟩
 · have:=(h.box.set_ rows.length (.slice (some ⟨W.heap.size,0,none⟩) M M)).alloc (.cells (Qbc (.bool false) M) 4)
   simpa using this
 · rcases Nat.lt_trichotomy i rows.length with e|e|e
   · rw [List.getElem?_append_left (by rw [h.n];exact e)] at h1
     rw [List.getElem?_append_left e] at h2;rw [List.getElem?_set_ne (by omega)];exact h.at_ i b r h1 h2
   · subst e
     rw [←h.n,List.getElem?_append_right (Zn _),Nat.sub_self] at h1;rw [List.getElem?_append_right (Zn _),Nat.sub_self] at h2
     cases h1
     cases h2
     rw [List.getElem?_set_self hc,List.length_replicate]
   · rw [List.getElem?_eq_none (by simp;omega)] at h2;cases h2
 · rcases Nat.lt_trichotomy i rows.length with e|e|e
   · rw [List.getElem?_append_left (by rw [h.n];exact e)] at h1
     rw [List.getElem?_append_left e] at h2;exact ((h.row i b r h1 h2).far_ (fun e2=>hTb b (Zm h1) e2.symm) _).alloc _
   · subst e
     rw [←h.n,List.getElem?_append_right (Zn _),Nat.sub_self] at h1;rw [List.getElem?_append_right (Zn _),Nat.sub_self] at h2
     cases h1
     cases h2
     rw [hz];refine Blk.new' _ _ _ ?_;rw [World.size_setCell]
   · rw [List.getElem?_eq_none (by simp;omega)] at h2;cases h2
 · rcases List.mem_append.1 hb with hb|hb
   · exact h.blo b hb
   · rw [List.mem_singleton.1 hb]
     have:=h.lo;exact ⟨by omega,by omega⟩
 · rw [List.nodup_append]
   refine ⟨h.nd,by simp,fun a ha b hb e=>?_⟩;rw [List.mem_singleton.1 hb] at e;have:=hbl a ha;omega
theorem TlW.kept {W W':World}{G:Nat→Prop}{B T:Nat}{cs:List Value}{bs:List Nat} {rows:List (List Bool)} (h:TlW W B T cs bs rows) (hk:Qaz G W W') (hG:∀ b,B≤b→G b):TlW W' B T cs bs rows :=
 ⟨h.lo,hk.blkM h.box (hG T h.lo),h.n,h.at_,fun i b r h1 h2=>hk.blkM (h.row i b r h1 h2) (hG b (h.blo b (Zm h1)).1),h.blo,h.nd⟩
theorem Qni {f:Nat→Nat→Bool}{i q:Nat}(l:List Int) (hq:q<(Qai l).toNat):((List.range (Qai l).toNat).map (f i))[q]?=some (f i q):=by
 rw [List.getElem?_map,List.getElem?_range hq]
 rfl
def TlP (w:World)(L:Nat) (rows:List (List Bool)) (r:Ending) (w':World):Prop :=
 ∃ T cs bs,r=.returned (.tuple #[.slice (some ⟨T,0,none⟩) L L,.nilIface])∧TlW w' w.heap.size T cs bs rows∧Below w.heap.size w w'
set_option maxHeartbeats 1000000 in
theorem Qwp (o:Nat)(ar:List Tri) (ls:List (List Int)) (w:World) (h:Qez w o ar ls) (hL:ls.length≤1000000) (hc:∀ l∈ls,l.length≤1000000) :
 Calls prog 66 #[.pointer (some ⟨o,0,none⟩)] w fun e w'=>∃ Q' cq',e=.returned (.agg #[.slice Q' ls.length cq'])∧RdT (msk w' (fun b=>w.heap.size≤b∧b<w'.heap.size)) Q' ls.length ls∧Below w.heap.size w w':=by
 obtain ⟨Q,F,T,G,S,L,m,cq,cf,ct,cg,cs,h⟩:=h;have h0:=h.n0;have hl:ls.length=L:=h.part.1;rw [hl] at hL ⊢;have HT:=Zh h.part;have HC:=Zh hc;have hol:=Qak h0;simp only at hol;clear h hc hl
 go_enter func66,ntmps66
 go_wp2_with fail
 (refine Qac ?_;intro w1 hw1)
 have hb1:Below w.heap.size w w1:=by rw [hw1];exact Qae
 have hR1:Blk w1 w.heap.size 89 #[.slice none 0 0]:=by rw [hw1];exact Qay
 have hz1:w.heap.size+1≤w1.heap.size:=by rw [hw1];simp
 clear hw1;with_reducible refine (Qsb Q L cq ls _ (HT.out.below hb1) hL HC.out).mono ?_
 rintro e w2 ⟨Q',cq',rfl,hrw,_,_,hb2⟩;have hR2:=hR1.below hb2 hR1.lt;have r0:=hR2.cell 0;simp only [List.getElem?_toArray,List.getElem?_cons_zero] at r0;have f0:=hR2.frozen 0;have hb2':=Zb hb1 hb2
 have HW:=Zh (show RdT (msk (w2.setCell ⟨w.heap.size,0,none⟩ (.slice Q' L cq')) (fun b=>w.heap.size≤b∧b<(w2.setCell ⟨w.heap.size,0,none⟩ (.slice Q' L cq')).heap.size)) Q' L ls from
  hrw.le ((Qaz.set w2 w.heap.size 0 (.slice Q' L cq') (by omega)).msk.trans (Qbd (fun b hb=>⟨by omega,by have:=hb.2;simpa [World.setCell] using this⟩))))
 have hbe:Below w.heap.size w (w2.setCell ⟨w.heap.size,0,none⟩ (.slice Q' L cq')):=hb2'.setCell (Zn _) _;clear hrw hb2 hR1 hb1 h0
 go_wp2_with fail
 refine bodyPost_ret (v:=.agg #[.slice Q' L cq']) (by simp [results,results66,go_sem,r0]) rfl ?_;exact ⟨_,_,rfl,HW.out,hbe⟩
end Go.Proofs.YthoagdpakddbdaaGreatDoor
