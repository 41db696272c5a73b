/- Parts of the proof: MdN, MdJ, Pp, MdH. -/
import Derived.Test.YthoagdpakddbdaaGreatDoorK1
import Derived.Test.YthoagdpakddbdaaGreatDoorK5
import Derived.Test.YthoagdpakddbdaaGreatDoorK7
import Derived.Test.YthoagdpakddbdaaGreatDoorK12
import Derived.Test.YthoagdpakddbdaaGreatDoorK13
import Derived.Test.YthoagdpakddbdaaGreatDoorK15
import Derived.Test.YthoagdpakddbdaaGreatDoorK21
import Derived.Test.YthoagdpakddbdaaGreatDoorK23
namespace Go.Proofs.YthoagdpakddbdaaGreatDoor
open Go.RowKit Go.Proofs.Tryz
attribute [local go_sem ↓] Go.wp_at_zero Go.wp_at_succ
theorem app_take {N:Qaj}{l:List Chn}{k:Nat}{c:Chn} (h:l[k]?=some c):Qef N (l.take (k+1))=Qoy (Qef N (l.take k)) c:=by
 rw [List.take_succ_eq_append_getElem (Zs h).1,(Zs h).2,appN_app]
 rfl
theorem Qbj.pre {N:Qaj}{l:List Chn}(h:Qbj N l)(k:Nat):Qbj N (l.take k):=(Qvs (l:=l.take k) (m:=l.drop k) (by rw [List.take_append_drop];exact h)).1
theorem Qbj.at_ {N:Qaj}{l:List Chn}(h:Qbj N l){k:Nat}{c:Chn} (hc:l[k]?=some c):ChOk (Qef N (l.take k)) c:=(h.all c (Zm hc)).shape (Qcb (h.pre k))
theorem Qbc.nat {N:Qaj}(hN:Qas N){c:Chn}{p i:Nat}{t:Qbw}(h:Qbc N c p i t):∃ (ti tO ci co:Nat) (cs:List Int),t=⟨ti,tO,cs⟩∧c.2.2.1=ci∧c.2.2.2.1=co∧ci<ti∧co<tO∧i=ci*tO+co:=by
 have ht:=hN.tabs t (Zm h.tt);obtain ⟨a,b,cs⟩:=t;have h0:=ht.i0;have h1:=ht.o0;have h2:=h.in0;have h3:=h.in1;have h4:=h.out0;have h5:=h.out1;have h6:=h.i;simp only at h0 h1 h3 h5 h6;refine ⟨a.toNat,b.toNat,c.2.2.1.toNat,c.2.2.2.1.toNat,cs,?_,by omega,by omega,by omega,by omega,h6⟩;rw [Int.toNat_of_nonneg h0,Int.toNat_of_nonneg h1]
theorem Qaz.transF {G G':Nat→Prop}{w V V':World}(h:Qaz G w V)(g:Qaz G' V V')(hs:∀ b,G b→b<w.heap.size→G' b)(hz:w.heap.size≤V.heap.size):Qaz G w V':=fun b hb hl=>(g b (hs b hb hl) (Nat.lt_of_lt_of_le hl hz)).trans (h b hb hl)
structure ApV (w:World) (F:Nat→Prop) (g:Nat) (V:World) (M:Qaj):Prop where
 kept:Qaz (fun b=>¬F b) w V
 size:w.heap.size≤V.heap.size
 gr:∃ F':Nat→Prop,(∀ b,F' b→F b∨w.heap.size≤b)∧GrO V F' g M
 bel:∀ B,B≤w.heap.size→(∀ b,F b→B≤b)→Below B w V
section
variable {w V V':World} {F F' F2:Nat→Prop} {g:Nat} {M M':Qaj}
theorem ApV.start (h:GrO w F g M):ApV w F g w M:=⟨Qaz.refl _ _,Zn _,⟨F,fun _ h=>.inl h,h⟩,fun _ _ _=>Zr _ _⟩
theorem ApV.below (h:ApV w F g V M)(hb:Below V.heap.size V V'):ApV w F g V' M:=by
 obtain ⟨F',h1,h2⟩:=h.gr;exact ⟨h.kept.trans (Qaz.below hb) h.size,Nat.le_trans h.size hb.size,⟨F',h1,h2.below hb⟩,fun B hB hF=>(h.bel B hB hF).trans (hb.mono (Nat.le_trans hB h.size))⟩
theorem ApV.step (h:ApV w F g V M)(hF:∀ b,F' b→F b∨w.heap.size≤b)(hF2:∀ b,F2 b→F' b∨V.heap.size≤b)(hg:GrO V' F2 g M') (hk:Qaz (fun b=>¬F' b) V V') (hz:V.heap.size≤V'.heap.size) (hb:∀ B,B≤V.heap.size→(∀ b,F' b→B≤b)→Below B V V'):ApV w F g V' M' :=
 ⟨h.kept.transF hk (fun b hb hl hn=>by rcases hF b hn with h1|h1;exact hb h1;omega) h.size,Nat.le_trans h.size hz,
  ⟨F2,fun b hb=>by
   rcases hF2 b hb with h1|h1
   · exact hF b h1
   · exact .inr (Nat.le_trans h.size h1),hg⟩,
  fun B hB hFB=>(h.bel B hB hFB).trans (hb B (Nat.le_trans hB h.size) (fun b hb=>by
   rcases hF b hb with h1|h1
   · exact hFB b h1
   · omega))⟩
end
set_option maxRecDepth 20000 in
set_option maxHeartbeats 4000000 in
theorem apply_ok (w:World)(g:Nat)(N:Qaj)(F:Nat→Prop)(A:Option Addr)(n cA:Nat)(l:List Chn)(hg:GrO w F g N) (hl:Qiu (msk w (fun b=>¬F b)) A n l) (hb:Qbj N l) (hl256:l.length≤256) :
 Calls prog 49 #[.pointer (some ⟨g,0,none⟩),.slice A n cA] w fun r w'=>r=.returned .nilIface∧ApV w F g w' (Qef N l):=by
 have hln:=hl.1;have HL:=Zh hl;have HB:=Zh hb;have hok:=hg.ok;have HOK:=Zh hok;have HCK:=Zh (Qof w g N A n cA l hg.rd hok (hl.le (Qbt _ _)) (by omega) [] 0 (hb.ck hl256));have HAP:=Zh (ApV.start hg);clear hg hl hb hok
 go_enter func49,ntmps49
 go_wp2_with fail
 with_reducible refine HCK.out.mono ?_
 rintro r w1 ⟨v,rfl,he,hb1⟩
 obtain rfl:v=.nilIface:=by
  rcases he with ⟨_,h⟩|⟨h,_⟩
  · exact h
  · exact absurd rfl h
 have HA1:=Zh (HAP.out.below hb1);clear HCK HAP he hb1
 go_wp2_with fail
 go_loopw [17] (fun q V=>∃ j:Nat,j≤n∧q=.int .i64 j∧ApV w F g V (Qef N (l.take j))) (fun q _=>n-(intOf q).toNat)
 case atStart=>exact ⟨0,Nat.zero_le _,rfl,by simpa [Qef] using HA1.out⟩
 case round =>
  clear HA1;obtain ⟨j,hj,rfl,hav⟩:=hrel;have HAV:=Zh hav;clear hav
  by_cases hlt:j<n
  rotate_left
  · obtain rfl:j=n:=by omega
    have i3:¬((j:Int)<(j:Int)):=by omega
    go_wp2_with fail
    go_ret
    refine ⟨rfl,?_⟩;have:=HAV.out;rw [List.take_of_length_le (by omega)] at this;exact this
  obtain ⟨lb,lo,x,y,z,u,v,rfl,hc,c1,c2,c3,c4,c5⟩:=(HL.out.le (HAV.out.kept.msk.trans (Qbt _ _))).at_ hlt;have hco:=HB.out.at_ hc;have HM':=Zh (app_take (N:=N) hc);obtain ⟨M,hM⟩:∃ M,M=Qef N (l.take j):=⟨_,rfl⟩;rw [←hM] at HAV hco HM';have HMO:=Zh (show Qas M by rw [hM];exact Qog HOK.out (HB.out.pre j))
  have i3:(j:Int)<(n:Int):=by omega
  have i4:(0:Int)≤(j:Int):=by omega
  have hcl:=Qag c1;simp only at hcl;clear hc hM
  rcases hco with ⟨a,hs⟩|⟨p,i,t,hbn⟩
  · have hk:=hs.k;have hat:=hs.at_;have hwk:=hs.w
    simp only at hk hat;have hwk:wOk v=true:=hwk;subst hk;subst hat;obtain ⟨⟨ax,ay,az⟩,ha⟩:∃ e,M.ar[a]?=some e:=⟨_,Zg hs.lt⟩;have HE:=Zh (hs.eq ha);have HAR:=Zh ha;have HWK:=Zh hwk;clear hs ha hwk
    go_wp2_with fail
    (refine Qac ?_;intro w3 hw3)
    have HA3:=Zh (HAV.out.below (show Below wr.heap.size wr w3 by rw [hw3];exact Qae))
    clear hw3 c1 c2 c3 c4 c5 hcl HAV;obtain ⟨F',hF',hGr⟩:=HA3.out.gr;have HF':=Zh hF';have HSET:=Zh (gSet_ok g a ax ay az v M F' w3 hGr HAR.out HWK.out);clear hGr hF';with_reducible refine HSET.out.mono ?_
    rintro r w4 ⟨rfl,k1,k2,k3,k4⟩
    have HA4:=Zh (show ApV w F g w4 (Qef N (l.take (j+1))) by
     rw [HM'.out,HE.out];exact HA3.out.step HF'.out (fun _ h=>.inl h) k1 k2 k3 (fun B _ hB=>k4 B hB))
    clear k1 k2 k3 k4 HSET
    go_wp2_with fail
    go_roundw
    case rel=>exact ⟨j+1,by omega,by go_num,HA4.out⟩
    case measure=>simp [intOf];omega
  · have hk:=hbn.k;have hat:=hbn.at_;have hwk:=hbn.w
    simp only at hk hat;have hwk:wOk v=true:=hwk;subst hk;subst hat;have HE:=Zh hbn.eq;have htt:=hbn.tt;obtain ⟨ti,tO,ci,co,cs,rfl,e1,e2,q1,q2,rfl⟩:=hbn.nat HMO.out;simp only at e1 e2;subst e1;subst e2;have HTT:=Zh htt;have HWK:=Zh hwk;clear hbn htt hwk
    go_wp2_with fail
    (refine Qac ?_;intro w3 hw3)
    have HA3:=Zh (HAV.out.below (show Below wr.heap.size wr w3 by rw [hw3];exact Qae))
    clear hw3 c1 c2 c3 c4 c5 hcl HAV;obtain ⟨F',hF',hGr⟩:=HA3.out.gr;have HF':=Zh hF';have HSET:=Zh (gBend_ok g p ci co ti tO cs v M F' w3 hGr HTT.out q1 q2 HWK.out);clear hGr hF';with_reducible refine HSET.out.mono ?_
    rintro r w4 ⟨rfl,⟨F2,k0,k1⟩,k2,k3,k4⟩
    have HA4:=Zh (show ApV w F g w4 (Qef N (l.take (j+1))) by
     rw [HM'.out,HE.out];exact HA3.out.step HF'.out k0 k1 k2 k3 k4)
    clear k0 k1 k2 k3 k4 HSET
    go_wp2_with fail
    go_roundw
    case rel=>exact ⟨j+1,by omega,by go_num,HA4.out⟩
    case measure=>simp [intOf];omega
theorem tb_mark {ls:List (List Int)} {f g:Nat→Nat→Bool} {i q0:Nat} {l:List Int} (hl:ls[i]?=some l) (h0:∀ k q,k≠i→g k q=f k q) (h1:∀ q,q<(Qam l).toNat→g i q=(f i q || q == q0)) :
 tb ls g=(tb ls f).set i (((List.range (Qam l).toNat).map (f i)).set q0 true):=by
 apply List.ext_getElem?
 intro k
 by_cases e:i=k
 · subst e
   rw [List.getElem?_set_self (by rw [Qia];exact (Zs hl).1),Qey hl]
   congr 1
   apply List.ext_getElem?
   intro q
   by_cases hq:q<(Qam l).toNat
   · rw [List.getElem?_map,List.getElem?_range hq,Option.map_some,h1 q hq]
     by_cases e2:q0=q
     · subst e2
       rw [List.getElem?_set_self (by simpa using hq)];simp
     · rw [List.getElem?_set_ne e2,List.getElem?_map,List.getElem?_range hq,Option.map_some]
       congr 1
       have:(q == q0)=false:=by simpa using fun e=>e2 e.symm
       rw [this,Bool.or_false]
   · rw [List.getElem?_eq_none (by simp;omega),List.getElem?_eq_none (by simp;omega)]
 · rw [List.getElem?_set_ne e]
   cases hk:ls[k]? with
   | none=>rw [List.getElem?_eq_none (by rw [Qia];exact List.getElem?_eq_none_iff.1 hk),List.getElem?_eq_none (by rw [Qia];exact List.getElem?_eq_none_iff.1 hk)]
   | some l' =>
    rw [Qey hk,Qey hk]
    congr 1
    exact List.map_congr_left (fun q _=>h0 k q (fun e'=>e e'.symm))
def mrk (ls:List (List Int)) (f:Nat→Nat→Bool) (a b:Nat) (i q:Nat):Bool:=f i q || (Qaf (ls.getD i []) (a:Int) == (q:Int) && Qaf (ls.getD i []) (b:Int) == (q:Int))
def Qev (ls:List (List Int)) (f:Nat→Nat→Bool) (a b k:Nat) (i q:Nat):Bool:=if i<k then mrk ls f a b i q else f i q
theorem Qsc (ls:List (List Int)) (f:Nat→Nat→Bool) (a b:Nat):Qev ls f a b 0=f:=by
 funext i q
 unfold Qev;rw [if_neg (by omega)]
theorem Qvi (ls:List (List Int)) (f:Nat→Nat→Bool) (a b:Nat):tb ls (Qev ls f a b ls.length)=tb ls (mrk ls f a b):=Qcw (fun i l hl q _=>by
 unfold Qev;rw [if_pos (Zs hl).1])
theorem Quk {ls:List (List Int)} {f:Nat→Nat→Bool} {a b i z:Nat} {l:List Int} (hl:ls[i]?=some l) (ha:Qaf l (a:Int)=(z:Int)) (hb:Qaf l (b:Int)=(z:Int)) :
 tb ls (Qev ls f a b (i+1))=(tb ls (Qev ls f a b i)).set i (((List.range (Qam l).toNat).map (Qev ls f a b i i)).set z true):=by
 refine tb_mark hl (fun k q hk=>?_) (fun q _=>?_)
 · unfold Qev
   by_cases e:k<i
   · rw [if_pos e,if_pos (by omega)]
   · rw [if_neg e,if_neg (by omega)]
 · unfold Qev
   rw [if_pos (by omega),if_neg (by omega)];unfold mrk;rw [Qfc hl,ha,hb,Bool.and_self]
   congr 1
   by_cases e:q=z
   · subst e;simp
   · have e1:(q == z)=false:=by simpa using e
     have e2:((z:Int) == (q:Int))=false:=by simp;omega
     rw [e1,e2]
theorem mrkTo_no {ls:List (List Int)} {f:Nat→Nat→Bool} {a b i:Nat} {l:List Int} (hl:ls[i]?=some l) (h:Qaf l (a:Int)≠Qaf l (b:Int)):tb ls (Qev ls f a b (i+1))=tb ls (Qev ls f a b i):=by
 refine Qcw (fun k l' hl' q _=>?_);unfold Qev
 by_cases e:k<i
 · rw [if_pos e,if_pos (by omega)]
 · by_cases e2:k=i
   · subst e2
     rw [if_pos (by omega),if_neg (by omega)];unfold mrk;rw [Qfc hl]
     have:(Qaf l (a:Int) == (q:Int) && Qaf l (b:Int) == (q:Int))=false:=by
      rw [Bool.and_eq_false_iff]
      by_cases e3:Qaf l (a:Int)=(q:Int)
      · right
        simpa using fun e4=>h (e3.trans e4.symm)
      · left
        simpa using e3
     rw [this,Bool.or_false]
   · rw [if_neg e,if_neg (by omega)]
structure MkW (w:World) (B T:Nat) (cs:List Value) (bs:List Nat) (rows:List (List Bool)) (V:World):Prop where
 tl:TlW V B T cs bs rows
 kept:Qaz (fun b=>b ∉ bs) w V
 size:w.heap.size≤V.heap.size
 bel:Below B w V
set_option maxRecDepth 20000 in
set_option maxHeartbeats 4000000 in
theorem Qux (w:World)(B T L cq n a b:Nat)(Q:Option Addr)(cs:List Value)(bs:List Nat) (ls:List (List Int)) (f:Nat→Nat→Bool) (hT:TlW w B T cs bs (tb ls f)) (hq:RdT (msk w (fun k=>k ∉ bs)) Q L ls) (hL:L≤1000000) (hn:n≤1000000) (hlv:∀ l∈ls,Qen n l) (ha:a<n) (hb:b<n) :
 Calls prog 67 #[.slice (some ⟨T,0,none⟩) L L,.slice Q L cq,.int .i64 a,.int .i64 b] w fun r w'=>r=.returned (.tuple #[])∧MkW w B T cs bs (tb ls (mrk ls f a b)) w':=by
 have HQ:=Zh hq;have HLV:=Zh hlv;have hll:=hq.1;have HT:=Zh (show MkW w B T cs bs (tb ls (Qev ls f a b 0)) w from ⟨by rw [Qsc];exact hT,Qaz.refl _ _,Zn _,Zr _ _⟩)
 clear hT hq hlv;have a0:¬((a:Int)<0):=by omega
 have b0:¬((b:Int)<0):=by omega
 have a1:(0:Int)≤(a:Int):=by omega
 have b1:(0:Int)≤(b:Int):=by omega
 go_enter func67,ntmps67
 go_wp2_with fail
 go_loopw [13] (fun q V=>∃ i:Nat,i≤L∧q=.int .i64 i∧MkW w B T cs bs (tb ls (Qev ls f a b i)) V) (fun q _=>L-(intOf q).toNat)
 case atStart=>exact ⟨0,Nat.zero_le _,rfl,HT.out⟩
 case round =>
  clear HT;obtain ⟨i,hi,rfl,hm⟩:=hrel;have HM:=Zh hm;clear hm
  by_cases hlt:i<L
  rotate_left
  · obtain rfl:i=L:=by omega
    have i3:¬((i:Int)<(i:Int)):=by omega
    go_wp2_with fail
    go_end0
    refine ⟨rfl,?_⟩;have:=HM.out;rw [←hll,Qvi] at this;exact this
  obtain ⟨l,hl⟩:∃ l,ls[i]?=some l:=⟨_,Zg (by rw [hll];exact hlt)⟩;have hlo:=HLV.out l (Zm hl);obtain ⟨qb,qo,A2,n2,c2,l',rfl,hl',q1,q2,q3,q4⟩:=(HQ.out.le (HM.out.kept.msk.trans (Qbt _ _))).at_ hlt;rw [hl] at hl'
  cases hl'
  obtain rfl:n2=n:=by rw [←q2.1];exact hlo.len
  obtain ⟨rb,ro,za,rfl,hza,d1⟩:=q2.at_ ha;obtain ⟨rb',ro',zb,e',hzb,d2⟩:=q2.at_ hb
  cases e'
  have ma:=Zm hza;obtain ⟨z,rfl⟩:∃ z:Nat,za=z:=⟨za.toNat,by have:=hlo.lo _ ma;omega⟩;have hzM:z<(Qam l).toNat:=by have:=Qlz ma;omega
  have ea:Qaf l (a:Int)=(z:Int):=Qbr hza;have eb:Qaf l (b:Int)=zb:=Qbr hzb;obtain ⟨bi,hbi,hcs,hbk,hBb,hbT⟩:=HM.out.tl.get (Qey (f:=Qev ls f a b i) hl);have hcc:=HM.out.tl.cell hcs;rw [List.length_map,List.length_range] at hcc;have hfr:=hbk.frozen z;obtain ⟨vb,hvb⟩:∃ vb:Bool,((List.range (Qam l).toNat).map (Qev ls f a b i i))[z]?=some vb:=⟨_,Zg (by simpa using hzM)⟩;have hcb:=hbk.cellB hvb;obtain ⟨M,hMe⟩:∃ M,M=(Qam l).toNat:=⟨_,rfl⟩;rw [←hMe] at hcc hzM;have i3:(i:Int)<(L:Int):=by omega
  have i4:(0:Int)≤(i:Int):=by omega
  have i5:¬((L:Int)≤(i:Int)):=by omega
  have i6:¬((n2:Int)≤(a:Int)):=by omega
  have i7:¬((n2:Int)≤(b:Int)):=by omega
  have i8:(a:Int)<(n2:Int):=by omega
  have i9:(b:Int)<(n2:Int):=by omega
  have j1:(0:Int)≤(z:Int):=by omega
  have j2:(z:Int)<(M:Int):=by omega
  have HLK:=Zh hl;have HEA:=Zh ea;have HEB:=Zh eb;have HBI:=Zh hbi;clear hl hlo q2 q3 q4 ma hza hzb ea eb hbi hcs hbk hMe hvb
  by_cases hz:(z:Int)=zb
  · subst hz
    have HM2:=Zh (show MkW w B T cs bs (tb ls (Qev ls f a b (i+1))) (wr.setCell ⟨bi,z,none⟩ (.bool true)) by
     have hmm:=HM.out;rw [Quk HLK.out HEA.out HEB.out];exact ⟨hmm.tl.mark HBI.out (Qey HLK.out) true,hmm.kept.trans (Qaz.set _ _ _ _ (fun h=>h (Zm HBI.out))) hmm.size,by simpa [World.setCell] using hmm.size,hmm.bel.setCell hBb _⟩)
    clear HM
    go_wp2_with fail
    go_roundw
    case rel=>exact ⟨i+1,by omega,by go_num,HM2.out⟩
    case measure=>simp [intOf];omega
  · have HM2:=Zh (show MkW w B T cs bs (tb ls (Qev ls f a b (i+1))) wr by
     rw [mrkTo_no HLK.out (by rw [HEA.out,HEB.out];exact hz)];exact HM.out)
    clear HM
    go_wp2_with fail
    go_roundw
    case rel=>exact ⟨i+1,by omega,by go_num,HM2.out⟩
    case measure=>simp [intOf];omega
section
variable {w V V':World} {B T:Nat} {cs:List Value} {bs:List Nat} {rows rows':List (List Bool)}
theorem MkW.start (h:TlW w B T cs bs rows):MkW w B T cs bs rows w:=⟨h,Qaz.refl _ _,Zn _,Zr _ _⟩
theorem MkW.trans (h:MkW w B T cs bs rows V)(g:MkW V B T cs bs rows' V'):MkW w B T cs bs rows' V':=⟨g.tl,h.kept.trans g.kept h.size,Nat.le_trans h.size g.size,h.bel.trans g.bel⟩
theorem MkW.below (h:MkW w B T cs bs rows V)(hb:Below V.heap.size V V'):MkW w B T cs bs rows V':=⟨h.tl.below hb,h.kept.trans (Qaz.below hb) h.size,Nat.le_trans h.size hb.size,h.bel.trans (hb.mono (by have:=h.tl.box.lt;have:=h.tl.lo;omega))⟩
theorem MkW.le (h:MkW w B T cs bs rows V):Le (msk w (fun b=>b ∉ bs)) V:=h.kept.msk.trans (Qbt _ _)
end
theorem Qjl {W W':World}{G G':Nat→Prop}(h:∀ b,G b→G' b)(hl:Le W W'):Le (msk W G) (msk W' G'):=fun _ _ hc=>Qar.2 ⟨h _ (Qar.1 hc).1,hl _ _ (Qar.1 hc).2⟩
theorem Qaz.blkM {G:Nat→Prop}{v V:World}{g:Nat}{t:TypeId}{cs:Array Value}(h:Qaz G v V)(hb:Blk v g t cs)(hg:G g):Blk V g t cs:=(h g hg hb.lt).trans hb
theorem infoQ:(Tryz.prog.info? 80).map (fun i=>(i.zero,i.size,i.bytes))=some (some (.slice none 0 0),1,24):=by kernel_rfl
theorem Qnv (n:Nat)(hn:n≤1000000)(W:World):(Instr.makeSlice 40 (.int .i64 (n:Int)) (.int .i64 (n:Int))).run prog W=.ok (.slice (some ⟨W.heap.size,0,none⟩) n n) (W.alloc (.cells (Qba (.slice none 0 0) n) 80)) :=
 Qdt (P:=prog) 40 80 (.slice none 0 0) 24 infoQ underlying40 rfl n (by omega) (by omega) .i64 .i64 W
def noM (_i _q:Nat):Bool:=false
theorem noM_row {ls:List (List Int)} {i:Nat} {l:List Int} (h:ls[i]?=some l):(tb ls noM)[i]?=some (List.replicate (Qam l).toNat false):=by
 rw [Qey h]
 congr 1
 apply List.ext_getElem?
 intro q
 by_cases hq:q<(Qam l).toNat
 · rw [List.getElem?_map,List.getElem?_range hq,List.getElem?_replicate,if_pos hq]
   rfl
 · rw [List.getElem?_eq_none (by simp;omega),List.getElem?_eq_none (by simp;omega)]
theorem TlW.push {W:World}{B T:Nat}{cs:List Value}{bs:List Nat} {rows:List (List Bool)} (h:TlW W B T cs bs rows) {M:Nat} (hc:rows.length<cs.length) :
 TlW ((W.setCell ⟨T,rows.length,none⟩ (.slice (some ⟨W.heap.size,0,none⟩) M M)).alloc (.cells (Qba (.bool false) M) 4)) B T (cs.set rows.length (.slice (some ⟨W.heap.size,0,none⟩) M M)) (bs ++[W.heap.size]) (rows ++[List.replicate M false]):=by
 have hz:Qba (.bool false) M=Qdh (List.replicate M false):=by simp [Qba,Qdh]
 have hbl:∀ b∈bs,b<W.heap.size:=fun b hb=>by
  obtain ⟨i,hi⟩:=List.getElem?_of_mem hb;obtain ⟨r,hr⟩:∃ r,rows[i]?=some r:=⟨_,Zg (by rw [←h.n];exact (Zs hi).1)⟩;exact (h.row i b r hi hr).lt
 have hTl:=h.box.lt;have hTb:∀ b∈bs,T≠b:=fun b hb e=>(h.blo b hb).2 e.symm
 refine ⟨h.lo,?_,by simp [h.n],fun i b r h1 h2=>?_,fun i b r h1 h2=>?_,fun b hb=>?_,?_⟩
 · have:=(h.box.set_ rows.length (.slice (some ⟨W.heap.size,0,none⟩) M M)).alloc (.cells (Qba (.bool false) M) 4)
   simpa using this
 · rcases Nat.lt_trichotomy i rows.length with e|e|e
   · rw [List.getElem?_append_left (by rw [h.n];exact e)] at h1
     rw [List.getElem?_append_left e] at h2;rw [List.getElem?_set_ne (by omega)];exact h.at_ i b r h1 h2
   · subst e
     rw [←h.n,List.getElem?_append_right (Zn _),Nat.sub_self] at h1;rw [List.getElem?_append_right (Zn _),Nat.sub_self] at h2
     cases h1
     cases h2
     rw [List.getElem?_set_self hc,List.length_replicate]
   · rw [List.getElem?_eq_none (by simp;omega)] at h2;cases h2
 · rcases Nat.lt_trichotomy i rows.length with e|e|e
   · rw [List.getElem?_append_left (by rw [h.n];exact e)] at h1
     rw [List.getElem?_append_left e] at h2;exact ((h.row i b r h1 h2).far_ (fun e2=>hTb b (Zm h1) e2.symm) _).alloc _
   · subst e
     rw [←h.n,List.getElem?_append_right (Zn _),Nat.sub_self] at h1;rw [List.getElem?_append_right (Zn _),Nat.sub_self] at h2
     cases h1
     cases h2
     rw [hz];refine Blk.new' _ _ _ ?_;rw [World.size_setCell]
   · rw [List.getElem?_eq_none (by simp;omega)] at h2;cases h2
 · rcases List.mem_append.1 hb with hb|hb
   · exact h.blo b hb
   · rw [List.mem_singleton.1 hb]
     have:=h.lo;exact ⟨by omega,by omega⟩
 · rw [List.nodup_append]
   refine ⟨h.nd,by simp,fun a ha b hb e=>?_⟩;rw [List.mem_singleton.1 hb] at e;have:=hbl a ha;omega
theorem TlW.kept {W W':World}{G:Nat→Prop}{B T:Nat}{cs:List Value}{bs:List Nat} {rows:List (List Bool)} (h:TlW W B T cs bs rows) (hk:Qaz G W W') (hG:∀ b,B≤b→G b):TlW W' B T cs bs rows :=
 ⟨h.lo,hk.blkM h.box (hG T h.lo),h.n,h.at_,fun i b r h1 h2=>hk.blkM (h.row i b r h1 h2) (hG b (h.blo b (Zm h1)).1),h.blo,h.nd⟩
theorem Qwx {f:Nat→Nat→Bool}{i q:Nat}(l:List Int) (hq:q<(Qam l).toNat):((List.range (Qam l).toNat).map (f i))[q]?=some (f i q):=by
 rw [List.getElem?_map,List.getElem?_range hq]
 rfl
def TlP (w:World)(L:Nat) (rows:List (List Bool)) (r:Ending) (w':World):Prop :=
 ∃ T cs bs,r=.returned (.tuple #[.slice (some ⟨T,0,none⟩) L L,.nilIface])∧TlW w' w.heap.size T cs bs rows∧Below w.heap.size w w'
set_option maxHeartbeats 1000000 in
theorem Qwe (o:Nat)(ar:List Tri) (ls:List (List Int)) (w:World) (h:Qex w o ar ls) (hL:ls.length≤1000000) (hc:∀ l∈ls,l.length≤1000000) :
 Calls prog 66 #[.pointer (some ⟨o,0,none⟩)] w fun e w'=>∃ Q' cq',e=.returned (.agg #[.slice Q' ls.length cq'])∧RdT (msk w' (fun b=>w.heap.size≤b∧b<w'.heap.size)) Q' ls.length ls∧Below w.heap.size w w':=by
 obtain ⟨Q,F,T,G,S,L,m,cq,cf,ct,cg,cs,h⟩:=h;have h0:=h.n0;have hl:ls.length=L:=h.part.1;rw [hl] at hL ⊢;have HT:=Zh h.part;have HC:=Zh hc;have hol:=Qag h0;simp only at hol;clear h hc hl
 go_enter func66,ntmps66
 go_wp2_with fail
 (refine Qac ?_;intro w1 hw1)
 have hb1:Below w.heap.size w w1:=by rw [hw1];exact Qae
 have hR1:Blk w1 w.heap.size 89 #[.slice none 0 0]:=by rw [hw1];exact Qau
 have hz1:w.heap.size+1≤w1.heap.size:=by rw [hw1];simp
 clear hw1;with_reducible refine (Qrc Q L cq ls _ (HT.out.below hb1) hL HC.out).mono ?_
 rintro e w2 ⟨Q',cq',rfl,hrw,_,_,hb2⟩;have hR2:=hR1.below hb2 hR1.lt;have r0:=hR2.cell 0;simp only [List.getElem?_toArray,List.getElem?_cons_zero] at r0;have f0:=hR2.frozen 0;have hb2':=Zb hb1 hb2
 have HW:=Zh (show RdT (msk (w2.setCell ⟨w.heap.size,0,none⟩ (.slice Q' L cq')) (fun b=>w.heap.size≤b∧b<(w2.setCell ⟨w.heap.size,0,none⟩ (.slice Q' L cq')).heap.size)) Q' L ls from
  hrw.le ((Qaz.set w2 w.heap.size 0 (.slice Q' L cq') (by omega)).msk.trans (Qbn (fun b hb=>⟨by omega,by have:=hb.2;simpa [World.setCell] using this⟩))))
 have hbe:Below w.heap.size w (w2.setCell ⟨w.heap.size,0,none⟩ (.slice Q' L cq')):=hb2'.setCell (Zn _) _;clear hrw hb2 hR1 hb1 h0
 go_wp2_with fail
 refine bodyPost_ret (v:=.agg #[.slice Q' L cq']) (by simp [results,results66,go_sem,r0]) rfl ?_;exact ⟨_,_,rfl,HW.out,hbe⟩
theorem Qgq {N:Qaj} {ls:List (List Int)} {l:List Chn} {k:Nat} {c:Chn} (h:l[k]?=some c) (i q:Nat):Qcz N ls (l.take (k+1)) i q=(Qcz N ls (l.take k) i q || chgM N c (ls.getD i []) q):=by
 unfold Qcz;rw [List.take_succ_eq_append_getElem (Zs h).1,(Zs h).2,Qwg]
theorem Blk.chn {w:World}{g:Nat}{t:TypeId}{a b c d e:Value} (h:Blk w g t #[a,b,c,d,e]) :
 w.cell? ⟨g,0,none⟩=some a∧w.cell? ⟨g,1,none⟩=some b∧w.cell? ⟨g,2,none⟩=some c∧w.cell? ⟨g,3,none⟩=some d∧w.cell? ⟨g,4,none⟩=some e :=
 ⟨Zq h,Zq h,Zq h,Zq h,Zq h⟩
set_option maxRecDepth 20000 in
set_option maxHeartbeats 8000000 in
theorem Qrs (w:World)(g o:Nat)(N:Qaj) (ls:List (List Int)) (A:Option Addr) (n cA:Nat) (l:List Chn) (hg:Qgk w g N) (hok:Qas N) (ho:Qex w o N.ar ls) (hP:Qcl N.vs.length ls) (hl:Qiu w A n l) (hb:Qbj N l) (hl256:l.length≤256) :
 Calls prog 28 #[.pointer (some ⟨g,0,none⟩),.pointer (some ⟨o,0,none⟩),.slice A n cA] w (TlP w ls.length (tb ls (Qcz N ls l))):=by
 have hln:=hl.1;have hL6:=hP.l6;have hlv:=hok.lv;have HL:=Zh hl;have HB:=Zh hb;have HP:=Zh hP;have HG:=Zh hg;have HO:=Zh ho;have HOK:=Zh hok;have HC:=Zh (Qof w g N A n cA l hg hok hl (by omega) [] 0 (hb.ck hl256));obtain ⟨L,hLe⟩:∃ L,L=ls.length:=⟨_,rfl⟩;rw [←hLe] at hL6 ⊢;have HLE:=Zh hLe;have hmkQ:=Qnv L (by omega);clear hl hb hP hg ho hok hLe
 go_enter func28,ntmps28
 go_wp2_with fail
 with_reducible refine HC.out.mono ?_
 rintro r w1 ⟨v,rfl,he,hb1⟩
 obtain rfl:v=.nilIface:=by
  rcases he with ⟨_,h⟩|⟨h,_⟩
  · exact h
  · exact absurd rfl h
 have HLV:=Zh (Qgg o N.ar ls w1 (HO.out.below hb1));rw [←HLE.out] at HLV;clear HC he
 go_wp2_with fail
 with_reducible refine HLV.out.mono ?_
 rintro e w' ⟨rfl,rfl⟩
 go_wp2_with fail
 (refine Qah ?_;intro w2 hw2)
 have hb2:Below w1.heap.size w1 w2:=by rw [hw2];exact Qae
 have hT2:TlW w2 w.heap.size w1.heap.size (List.replicate L (.slice none 0 0)) [] []:=by
  rw [hw2];refine TlW.start ?_ hb1.size;have e:Qba (.slice none 0 0) L=(List.replicate L (Value.slice none 0 0)).toArray:=by simp [Qba]
  rw [e];exact Blk.new _ _ _
 obtain ⟨T,hTe⟩:∃ T,T=w1.heap.size:=⟨_,rfl⟩;rw [←hTe] at hT2 hb2 ⊢;have hb12:Below w.heap.size w w2:=hb1.trans (hb2.mono (by rw [hTe];exact hb1.size));clear hw2 hmkQ HLV hb2 hTe hb1
 go_loopw [28] (fun q V=>Below w.heap.size w V∧∃ (i:Nat) (cs:List Value) (bs:List Nat),i≤L∧q=.int .i64 i∧cs.length=L∧TlW V w.heap.size T cs bs ((tb ls noM).take i)) (fun q _=>L-(intOf q).toNat)
 case atStart=>exact ⟨hb12,0,List.replicate L (.slice none 0 0),[],Nat.zero_le _,rfl,by simp,by simpa using hT2⟩
 case round =>
  clear hb12 hT2;obtain ⟨hbl,i,cs,bs,hi,rfl,hcl,hT⟩:=hrel
  by_cases hlt:i<L
  · obtain ⟨r0,hr0⟩:∃ r0,ls[i]?=some r0:=⟨_,Zg (by rw [←HLE.out];exact hlt)⟩
    obtain ⟨M,hM⟩:∃ M,M=(Qam r0).toNat:=⟨_,rfl⟩;have HCE:=Zh (Qfg o i M N.ar ls r0 wr (HO.out.below hbl) hr0 (by rw [←HLE.out];omega) hM.symm)
    have hMb:M≤4096:=by
     have h1:=HP.out.lvl r0 (Zm hr0);have h2:=Qcd (l:=r0) (n:=(N.vs.length:Int)) (fun x hx=>h1.hi x hx) (by omega);omega
    have hmk:=Qju M (by omega);have hrl:((tb ls noM).take i).length=i:=by rw [List.length_take,Qia,←HLE.out];omega
    have HTN:=Zh (show (tb ls noM).take (i+1)=(tb ls noM).take i ++[List.replicate M false] by
     have h1:=noM_row hr0;rw [←hM] at h1;rw [List.take_succ_eq_append_getElem (Zs h1).1,(Zs h1).2])
    have hpush:=hT.push (M:=M) (by rw [hrl,hcl];exact hlt);rw [hrl,←HTN.out] at hpush;have HPU:=Zh hpush;have HCL:=Zh hcl;have hTl:=hT.box.lt;have hTf:=hT.box.frozen i;have hcc:wr.cell? ⟨T,i,none⟩=cs[i]?:=by rw [hT.box.cell];simp
    obtain ⟨u0,hu0⟩:∃ u,cs[i]?=some u:=⟨_,Zg (by rw [hcl];exact hlt)⟩;rw [hu0] at hcc;have hTB:=hT.lo;have i3:(i:Int)<(L:Int):=by omega
    have i4:(0:Int)≤(i:Int):=by omega
    clear hr0 hM hpush hT hu0 hcl hrl
    go_wp2_with fail
    with_reducible refine HCE.out.mono ?_
    rintro e w' ⟨rfl,rfl⟩
    go_wp2_with fail
    go_roundw
    case rel=>exact ⟨Qae,i+1,_,_,by omega,by go_num,by rw [List.length_set];exact HCL.out,HPU.out⟩
    case measure=>simp [intOf];omega
  obtain rfl:i=L:=by omega
  have i3:¬((i:Int)<(i:Int)):=by omega
  rw [List.take_of_length_le (by rw [Qia,←HLE.out];exact Zn _)] at hT;have HT:=Zh hT;have hTl:=hT.box.lt;have hTB:=hT.lo;have HBL:=Zh hbl;clear hT hcl hi hlt
  by_cases h0:n=0
  · have hl0:l=[]:=List.eq_nil_of_length_eq_zero (by omega)
    subst hl0;have HT2:=Zh (show TlW wr w.heap.size T cs bs (tb ls (Qcz N ls [])) from HT.out)
    subst h0;clear HT
    go_wp2_with fail
    refine bodyPost_ret (v:=.tuple #[.slice (some ⟨T,0,none⟩) i i,.nilIface]) (by simp [results,results28,go_sem]) rfl ?_;exact ⟨T,cs,bs,rfl,HT2.out,hbl⟩
  have i4:¬((n:Int)=0):=by omega
  have HPT:=Zh (Qwe o N.ar ls wr (HO.out.below hbl) (by rw [←HLE.out];omega) (fun l hl=>by rw [(HP.out.lvl l hl).len];omega));rw [←HLE.out] at HPT
  go_wp2_with fail
  with_reducible refine HPT.out.mono ?_
  rintro r w3 ⟨Q,cq,rfl,hQ,hb3⟩;have hfl:∀ V,(Instr.field 89 (.agg #[.slice Q i cq]) 0).run prog V=.ok (.slice Q i cq) V:=fun V=>by rfl
  have HT3:=Zh (HT.out.below hb3);have hbw3:=Zb hbl hb3;have HNT:=Zh (Qom g N w3 (HG.out.below hbw3));have HQ3:=Zh hQ
  have hbsl:∀ b∈bs,b<wr.heap.size:=fun b hb=>by
   obtain ⟨k,hk⟩:=List.getElem?_of_mem hb;obtain ⟨r,hr⟩:∃ r,(tb ls noM)[k]?=some r:=⟨_,Zg (by rw [←HT.out.n];exact (Zs hk).1)⟩;exact (HT.out.row k b r hk hr).lt
  have hbsB:∀ b∈bs,w.heap.size≤b:=fun b hb=>(HT.out.blo b hb).1
  have HBS:=Zh hbsl;have HBB:=Zh hbsB;have hz3:=hb3.size;clear hQ HT HPT hbsl hbsB hbl
  go_wp2_with fail
  with_reducible refine HNT.out.mono ?_
  rintro r w4 ⟨A1,B1,C1,a1,b1,c1,rfl,_,_,hN4,hb4⟩;have hz4:=hb4.size;have HT4:=Zh (HT3.out.below hb4);have HN4:=Zh hN4;have HQ4:=Zh (show RdT (msk w4 (fun k=>k ∉ bs)) Q i ls from HQ3.out.le (Qjl (fun b hb hm=>by have:=HBS.out b hm;omega) (Le.below hb4)))
  have hbw4:=Zb hbw3 hb4;clear hN4 hfl HNT HT3 HQ3 hb3 hb4 hbw3
  go_wp2_with fail
  (refine Qah ?_;intro w5 hw5)
  have hb5:Below w4.heap.size w4 w5:=by rw [hw5];exact Qae
  have hX5:Blk w5 w4.heap.size 120 #[.slice A1 N.vs.length a1,.slice B1 N.ar.length b1,.slice C1 N.ts.length c1]:=by rw [hw5];exact Qau
  have hbw5:=Zb hbw4 hb5;have HN5:=Zh (show Qbm (msk w5 (fun k=>k ∉ bs)) A1 B1 C1 N.vs.length N.ar.length N.ts.length N from HN4.out.le (Qjl (fun b hb hm=>by have:=HBS.out b hm;omega) (Le.below hb5)))
  have HQ5:=Zh (show RdT (msk w5 (fun k=>k ∉ bs)) Q i ls from HQ4.out.le ((Qaz.below hb5).msk))
  have HT5:=Zh (show MkW w5 w.heap.size T cs bs (tb ls (Qcz N ls (l.take 0))) w5 from MkW.start (HT4.out.below hb5))
  have HX5:=Zh hX5;have hx5:w4.heap.size ∉ bs:=fun hm=>by have:=HBS.out _ hm;omega
  have HBW5:=Zh hbw5;have hz5:=hb5.size;have HXN:=Zh hx5;obtain ⟨xN,hxN⟩:∃ xN,xN=w4.heap.size:=⟨_,rfl⟩;rw [←hxN] at HX5 HXN ⊢;have HBS5:=Zh (show ∀ b∈bs,b<w5.heap.size from fun b hm=>by have:=HBS.out _ hm;omega)
  clear hw5 hb5 hX5 hbw5 hx5 hxN HN4 HQ4 HT4 HBS hbw4
  go_loopw [51] (fun q V=>∃ j:Nat,j≤n∧q=.int .i64 j∧MkW w5 w.heap.size T cs bs (tb ls (Qcz N ls (l.take j))) V) (fun q _=>n-(intOf q).toNat)
  case atStart=>exact ⟨0,Nat.zero_le _,rfl,HT5.out⟩
  case round =>
   clear HT5 hTl;obtain ⟨j,hj,rfl,hm⟩:=hrel;have HM:=Zh hm;clear hm;have hbw:Below w.heap.size w wr:=HBW5.out.trans HM.out.bel
   by_cases hlt:j<n
   rotate_left
   · obtain rfl:j=n:=by omega
     have i3:¬((j:Int)<(j:Int)):=by omega
     have HM2:=HM.out;rw [List.take_of_length_le (by omega)] at HM2;have HM3:=Zh HM2;clear HM HM2
     go_wp2_with fail
     refine bodyPost_ret (v:=.tuple #[.slice (some ⟨T,0,none⟩) i i,.nilIface]) (by simp [results,results28,go_sem]) rfl ?_;exact ⟨T,cs,bs,rfl,HM3.out.tl,hbw⟩
   obtain ⟨lb,lo,x,y,z,u,v,rfl,hc,c1',c2',c3',c4',c5'⟩:=(HL.out.below hbw).at_ hlt;have hco:=HB.out.all _ (Zm hc);have HCJ:=Zh hc;have i5:(j:Int)<(n:Int):=by omega
   have i6:(0:Int)≤(j:Int):=by omega
   have hcl:=Qag c1';simp only at hcl;have hwl:w5.heap.size≤wr.heap.size:=HM.out.size;clear hc
   rcases hco with ⟨a,hs⟩|⟨p,ii,t,hbn⟩
   · have hk:=hs.k;have hat:=hs.at_
     simp only at hk hat;subst hk;subst hat;obtain ⟨⟨ax,ay,aw⟩,ha⟩:∃ e,N.ar[a]?=some e:=⟨_,Zg hs.lt⟩;have hao:=HOK.out.arcs _ (Zm ha);have f0:=hao.f0;have f1:=hao.f1;have g0:=hao.g0;have g1:=hao.g1;simp only at f0 f1 g0 g1;obtain ⟨va,rfl⟩:∃ va:Nat,ax=va:=⟨ax.toNat,by omega⟩;obtain ⟨vb,rfl⟩:∃ vb:Nat,ay=vb:=⟨ay.toNat,by omega⟩;have HMK:=Zh (fun (r:List Int) (q:Nat)=>hs.marks ha r q);have HAA:=Zh ha;clear hs hao ha
     go_wp2_with fail
     (refine Qah ?_;intro w6 hw6)
     have hb6:Below wr.heap.size wr w6:=by rw [hw6];exact Qae
     have hX6:Blk w6 wr.heap.size 83 #[.int .i64 1,.int .i64 a,.int .i64 z,.int .i64 u,.int .i64 v]:=by rw [hw6];exact Qau
     have hbw6:=Zb hbw hb6;have HM6:=Zh (HM.out.below hb6);have HX6:=Zh hX6;clear hw6 hb6 c1' c2' c3' c4' c5' hcl HM hbw;have HSX:=Zh (show ∀ V,Below w6.heap.size w6 V→V.cell? ⟨wr.heap.size,1,none⟩=some (.int .i64 a)∧V.cell? ⟨wr.heap.size,4,none⟩=some (.int .i64 v) from fun V hV=>⟨by rw [(HX6.out.below hV HX6.out.lt).cell];rfl,by rw [(HX6.out.below hV HX6.out.lt).cell];rfl⟩)
     obtain ⟨x0,x1,x2,x3,x4⟩:=hX6.chn;clear hX6 x1 x2 x3 x4
     go_wp2_with fail
     clear x0;refine wp_region_held_drew (S:=fun V=>Below w6.heap.size w6 V) (by kernel_rfl) (Zr _ _).drew (fun _=>?_);refine tz 0 59 ?_;refine tz 1 60 ?_;refine tz 2 61 ?_;refine tz 4 63 ?_;refine tz 5 64 ?_;refine Zk 3 (fun K hK=>?_);go_simp;with_reducible refine (Qeh g a N _ _ (HG.out.below (hbw6.trans ((Zr _ _).drew.mono (by have:=hbw6.size;omega)))) HAA.out).mono ?_
     rintro r w' ⟨rfl,rfl⟩;go_simp;refine hK.out _ _ (Zr _ _).drew (fun _=>?_);clear hK K;refine tz 6 65 ?_;refine Zd ?_;clear HSX;have hbw7:Below w.heap.size w w6.drew:=hbw6.drew
     by_cases hwe:aw=v
     · have HM9:=Zh (show MkW w5 w.heap.size T cs bs (tb ls (Qcz N ls (l.take (j+1)))) w6.drew by
        have e:tb ls (Qcz N ls (l.take (j+1)))=tb ls (Qcz N ls (l.take j)):=Qcw (fun k r hr q _=>by
         rw [Qgq HCJ.out,HMK.out];simp [Chn.w,hwe])
        rw [e];exact HM6.out.below (Zr _ _).drew)
       have HWE:=Zh hwe;subst hwe;clear HM6 HX6 HMK hbw6 hbw7
       go_wp2_with fail
       go_roundw
       case rel=>exact ⟨j+1,by omega,by go_num,HM9.out⟩
       case measure=>simp [intOf];omega
     have HWE:=Zh hwe
     go_wp2_with fail
     have HX7:=Zh (HX6.out.drew);have HM7:=Zh (HM6.out.below (Zr _ _).drew);have HSX:=Zh (show ∀ V,Blk V wr.heap.size 83 #[.int .i64 1,.int .i64 a,.int .i64 z,.int .i64 u,.int .i64 v]→V.cell? ⟨wr.heap.size,1,none⟩=some (.int .i64 a) from fun V hV=>Zq hV)
     clear hwe HX6 HM6 hbw6;obtain ⟨w7,hw7⟩:∃ W,W=w6.drew:=⟨_,rfl⟩;rw [←hw7] at HX7 HM7 hbw7 ⊢;clear hw7;refine wp_region_held_drew (S:=fun V=>Blk V wr.heap.size 83 #[.int .i64 1,.int .i64 a,.int .i64 z,.int .i64 u,.int .i64 v]) (by kernel_rfl) HX7.out.drew (fun _=>?_);refine tz 0 66 ?_;refine tz 1 67 ?_;refine tz 2 68 ?_;refine tz 3 69 ?_;refine tz 4 70 ?_;refine tz 6 72 ?_;refine tz 7 73 ?_;refine tz 8 74 ?_;refine Zk 5 (fun K hK=>?_);go_simp;with_reducible refine (Qgz g a N _ _ (HG.out.below hbw7.drew) HAA.out).mono ?_
     rintro r w' ⟨rfl,rfl⟩;go_simp;refine hK.out _ _ HX7.out.drew (fun _=>?_);clear hK K;refine Zk 9 (fun K hK=>?_);go_simp;with_reducible refine (Qkp g a N _ _ (HG.out.below hbw7.drew) HAA.out).mono ?_
     rintro r w' ⟨rfl,rfl⟩;go_simp;refine hK.out _ _ HX7.out.drew (fun _=>?_);clear hK K;have HM8:=Zh (HM7.out.below (Zr _ _).drew);refine Zk 10 (fun K hK=>?_);go_simp;with_reducible refine (Qux w7.drew w.heap.size T i cq N.vs.length va vb Q cs bs ls (Qcz N ls (l.take j)) HM8.out.tl (HQ5.out.le HM8.out.kept.msk) (by omega) (by omega) HP.out.lvl (by omega) (by omega)).mono ?_
     rintro r w8 ⟨rfl,hm8⟩
     have HM9:=Zh (show MkW w5 w.heap.size T cs bs (tb ls (Qcz N ls (l.take (j+1)))) w8 by
      have e:tb ls (Qcz N ls (l.take (j+1)))=tb ls (mrk ls (Qcz N ls (l.take j)) va vb):=Qcw (fun k r hr q _=>by
       rw [Qgq HCJ.out,HMK.out];unfold mrk;have hne:(aw != v)=true:=by simpa using HWE.out
       show (_ || (aw != v && _))=_
       rw [hne,Bool.true_and])
      rw [e];exact HM8.out.trans hm8)
     have hX8:=hm8.kept.blkM HX7.out.drew (fun hm=>by have:=HBS5.out _ hm;omega);clear hm8;go_simp;refine hK.out _ _ hX8 (fun _=>?_);clear hK K;refine Zd ?_;clear HSX HM7 HM8 HX7 HMK hX8 hbw7
     go_wp2_with fail
     go_roundw
     case rel=>exact ⟨j+1,by omega,by go_num,HM9.out⟩
     case measure=>simp [intOf];omega
   · have hk:=hbn.k;have hat:=hbn.at_
     simp only at hk hat;subst hk;subst hat;have HMK:=Zh (fun (r:List Int) (q:Nat)=>hbn.marks r q);have htt:=hbn.tt;have htab:=HOK.out.tabs t (Zm htt);obtain ⟨ti,tO,ci,co,cost,rfl,e1,e2,q1,q2,rfl⟩:=hbn.nat HOK.out;simp only at e1 e2;subst e1;subst e2;have hpl:=(Zs htt).1;have HTT:=Zh htt;have HTAB:=Zh htab;have i7:(0:Int)≤(p:Int):=by omega
     have i8:(p:Int)<(N.ts.length:Int):=by omega
     clear hbn htt htab
     go_wp2_with fail
     (refine Qah ?_;intro w6 hw6)
     have hb6:Below wr.heap.size wr w6:=by rw [hw6];exact Qae
     have hX6:Blk w6 wr.heap.size 83 #[.int .i64 2,.int .i64 p,.int .i64 ci,.int .i64 co,.int .i64 v]:=by rw [hw6];exact Qau
     have hbw6:=Zb hbw hb6;have HM6:=Zh (HM.out.below hb6);have HX6:=Zh hX6;have HN6:=Zh (HN5.out.le HM6.out.kept.msk);obtain ⟨tb_,to_,eC,d0,d1,A2,n2,c2,d2,hr2,hcap2⟩:=(HN6.out.le (Qbt _ _)).2.2.2 p _ HTT.out;subst eC;simp only at d0 d1 hr2;have hxN6:=HM6.out.kept.blkM HX5.out HXN.out;have HXN6:=Zh hxN6;have HR2:=Zh hr2;clear hw6 hb6 c1' c2' c3' c4' c5' hcl HM hbw hxN6
     have HSX:=Zh (show ∀ V,Below w6.heap.size w6 V→V.cell? ⟨xN,2,none⟩=some (.slice (some ⟨tb_,to_,none⟩) N.ts.length c1)∧V.cell? ⟨wr.heap.size,1,none⟩=some (.int .i64 p)∧V.cell? ⟨wr.heap.size,2,none⟩=some (.int .i64 ci)∧V.cell? ⟨wr.heap.size,3,none⟩=some (.int .i64 co)∧V.cell? ⟨wr.heap.size,4,none⟩=some (.int .i64 v)∧V.cell? ⟨tb_,to_+p*3,none⟩=some (.int .i64 ti)∧V.cell? ⟨tb_,to_+p*3+1,none⟩=some (.int .i64 tO)∧V.cell? ⟨tb_,to_+p*3+2,none⟩=some (.slice A2 n2 c2) from
      fun V hV=>⟨by rw [(HXN6.out.below hV HXN6.out.lt).cell];rfl,by rw [(HX6.out.below hV HX6.out.lt).cell];rfl,by rw [(HX6.out.below hV HX6.out.lt).cell];rfl,by rw [(HX6.out.below hV HX6.out.lt).cell];rfl,by rw [(HX6.out.below hV HX6.out.lt).cell];rfl,Zc hV (Zn _) d0,Zc hV (Zn _) d1,Zc hV (Zn _) d2⟩)
     obtain ⟨x0,x1,x2,x3,x4⟩:=hX6.chn;clear hX6 x1 x2 x3 x4 d0 d1 d2 hr2
     go_wp2_with fail
     clear x0;refine wp_region_held_drew (S:=fun V=>Below w6.heap.size w6 V) (by kernel_rfl) (Zr _ _).drew (fun _=>?_);refine tz 0 79 ?_;refine tz 1 80 ?_;refine tz 2 81 ?_;refine tz 3 82 ?_;refine tz 4 83 ?_;refine tz 5 84 ?_;refine tz 6 85 ?_;refine tz 7 86 ?_;refine tz 8 87 ?_;refine tz 9 88 ?_;refine tz 11 90 ?_;refine tz 12 91 ?_;refine Zk 10 (fun K hK=>?_);go_simp;with_reducible refine (Qop A2 n2 c2 ⟨ti,tO,cost⟩ ci co w6.drew (HR2.out.below (Zr _ _).drew) HTAB.out (by simp only;omega) (by simp only;omega)).mono ?_
     rintro r w7 ⟨cx,hcx,rfl,hb7⟩;have hb67:Below w6.heap.size w6 w7:=(Zr _ _).drew.trans hb7;have HCX:=Zh hcx;clear hcx hb7;go_simp;refine hK.out _ _ hb67 (fun _=>?_);clear hK K;refine tz 13 92 ?_;refine Zd ?_;clear HSX;have HM7:=Zh (HM6.out.below hb67);have HX7:=Zh (HX6.out.below hb67 HX6.out.lt);have HXN7:=Zh (HXN6.out.below hb67 HXN6.out.lt);have hbw7:=Zb hbw6 hb67
     have hgd:(cost.getD (ci*tO+co) 0)=cx:=by
      have:=HCX.out
      try simp only [Int.toNat_natCast] at this
      rw [List.getD_eq_getElem?_getD,this]
      rfl
     have HGD:=Zh hgd;clear HM6 HX6 HXN6 HN6 HR2 hb67 hbw6 hgd
     by_cases hwe:cx=v
     · have HM9:=Zh (show MkW w5 w.heap.size T cs bs (tb ls (Qcz N ls (l.take (j+1)))) w7 by
        have e:tb ls (Qcz N ls (l.take (j+1)))=tb ls (Qcz N ls (l.take j)):=Qcw (fun k r hr q _=>by
         rw [Qgq HCJ.out,HMK.out]
         try simp only
         rw [HGD.out];simp [Chn.w,hwe])
        rw [e];exact HM7.out)
       subst hwe;clear HM7 HX7 HXN7 HMK
       go_wp2_with fail
       go_roundw
       case rel=>exact ⟨j+1,by omega,by go_num,HM9.out⟩
       case measure=>simp [intOf];omega
     have HWE:=Zh hwe;have y0:=HXN7.out.three.1
     go_wp2_with fail
     clear y0 hwe
     have HM8:=Zh (show MkW w5 w.heap.size T cs bs (tb ls (fun k q=>Qcz N ls (l.take j) k q || Qmn N (p:Int) (ls.getD k []) 0 q)) w7 by
      have e:tb ls (fun k q=>Qcz N ls (l.take j) k q || Qmn N (p:Int) (ls.getD k []) 0 q)=tb ls (Qcz N ls (l.take j)):=Qcw (fun k r hr q _=>by simp [Qmn]);rw [e];exact HM7.out)
     have hwl7:wr.heap.size<w7.heap.size:=HX7.out.lt
     obtain ⟨b14,hb14⟩:∃ b,b=wr.heap.size:=⟨_,rfl⟩;rw [←hb14] at HX7 hwl7 ⊢;have HB14:=Zh (show b14 ∉ bs from fun hm=>by have:=HBS5.out _ hm;omega)
     clear HM7 hb14
     go_loopw [96] (fun q V=>∃ k:Nat,k≤N.vs.length∧q=.int .i64 k∧Blk V b14 83 #[.int .i64 2,.int .i64 p,.int .i64 ci,.int .i64 co,.int .i64 v]∧MkW w5 w.heap.size T cs bs (tb ls (fun k' q=>Qcz N ls (l.take j) k' q || Qmn N (p:Int) (ls.getD k' []) k q)) V) (fun q _=>N.vs.length-(intOf q).toNat)
     case atStart=>exact ⟨0,Nat.zero_le _,rfl,HX7.out,HM8.out⟩
     case round =>
      clear HM8 HX7 HXN7 hbw7;obtain ⟨k,hk,rfl,hX,hm⟩:=hrel;have HM:=Zh hm;have HX:=Zh hX;clear hm;have hXl:=hX.lt
      by_cases hkn:k<N.vs.length
      rotate_left
      · obtain rfl:k=N.vs.length:=by omega
        have i9:¬((N.vs.length:Int)<(N.vs.length:Int)):=by omega
        have HM9:=Zh (show MkW w5 w.heap.size T cs bs (tb ls (Qcz N ls (l.take (j+1)))) wr by
         have e:tb ls (Qcz N ls (l.take (j+1)))=tb ls (fun k' q=>Qcz N ls (l.take j) k' q || Qmn N (p:Int) (ls.getD k' []) N.vs.length q):=Qcw (fun k r hr q _=>by
          rw [Qgq HCJ.out,HMK.out]
          try simp only
          rw [HGD.out];have hne:(cx != v)=true:=by simpa using HWE.out
          show (_ || (cx != v && _))=_
          rw [hne,Bool.true_and])
         rw [e];exact HM.out)
        clear HM HX hX HMK
        go_wp2_with fail
        go_roundw
        case rel=>exact ⟨j+1,by omega,by go_num,HM9.out⟩
        case measure=>simp [intOf];omega
      obtain ⟨ab,ao,vx,vy,vt,rfl,hvx,b1,b2,b3⟩:=(HN5.out.le HM.out.le).1.at_ hkn;have hbl:=Qag b1;simp only at hbl;have i9:(k:Int)<(N.vs.length:Int):=by omega
      have j1:(0:Int)≤(k:Int):=by omega
      by_cases hvt:vt=(p:Int)
      · subst hvt
        have HVX:=Zh hvx;clear hvx;obtain ⟨x0,x1,x2,x3,x4⟩:=hX.chn;clear hX x0 x2 x3 x4
        go_wp2_with fail
        (refine Qac ?_;intro w9 hw9)
        have hb9:Below wr.heap.size wr w9:=by rw [hw9];exact Qae
        have HM9:=Zh (HM.out.below hb9);have HX9:=Zh (HX.out.below hb9 hXl);clear hw9 hb9 HM HX x1 b1 b2 b3;with_reducible refine (Qux w9 w.heap.size T i cq N.vs.length k k Q cs bs ls _ HM9.out.tl (HQ5.out.le HM9.out.kept.msk) (by omega) (by omega) HP.out.lvl hkn hkn).mono ?_
        rintro r w10 ⟨rfl,hm10⟩
        have HM10:=Zh (show MkW w5 w.heap.size T cs bs (tb ls (fun k' q=>Qcz N ls (l.take j) k' q || Qmn N (p:Int) (ls.getD k' []) (k+1) q)) w10 by
         have e:tb ls (fun k' q=>Qcz N ls (l.take j) k' q || Qmn N (p:Int) (ls.getD k' []) (k+1) q)=tb ls (mrk ls (fun k' q=>Qcz N ls (l.take j) k' q || Qmn N (p:Int) (ls.getD k' []) k q) k k):=Qcw (fun k' r hr q _=>by
          have hvd:(N.vs.getD k (0,0,0)).2.2=(p:Int):=by rw [List.getD_eq_getElem?_getD,HVX.out];rfl
          unfold mrk;rw [Qnc,hvd,Bool.and_self,Bool.or_assoc];simp)
         rw [e];exact HM9.out.trans hm10)
        have HX10:=Zh (hm10.kept.blkM HX9.out HB14.out);clear hm10 HM9 HX9
        go_wp2_with fail
        go_roundw
        case rel=>exact ⟨k+1,by omega,by go_num,HX10.out,HM10.out⟩
        case measure=>simp [intOf];omega
      · have HM10:=Zh (show ∀ V,Below wr.heap.size wr V→MkW w5 w.heap.size T cs bs (tb ls (fun k' q=>Qcz N ls (l.take j) k' q || Qmn N (p:Int) (ls.getD k' []) (k+1) q)) V from fun V hV=>by
         have e:tb ls (fun k' q=>Qcz N ls (l.take j) k' q || Qmn N (p:Int) (ls.getD k' []) (k+1) q)=tb ls (fun k' q=>Qcz N ls (l.take j) k' q || Qmn N (p:Int) (ls.getD k' []) k q):=Qcw (fun k' r hr q _=>by
          have hvd:(N.vs.getD k (0,0,0)).2.2=vt:=by rw [List.getD_eq_getElem?_getD,hvx];rfl
          have hne:(vt == (p:Int))=false:=by simpa using hvt
          try simp only
          rw [Qnc,hvd,hne,Bool.false_and,Bool.or_false])
         rw [e];exact HM.out.below hV)
        have HVT:=Zh hvt;obtain ⟨x0,x1,x2,x3,x4⟩:=hX.chn;clear hX x0 x2 x3 x4 hvx HM
        go_wp2_with fail
        go_roundw
        case rel=>exact ⟨k+1,by omega,by go_num,HX.out.below Qae hXl,HM10.out _ Qae⟩
        case measure=>simp [intOf];omega
end Go.Proofs.YthoagdpakddbdaaGreatDoor
