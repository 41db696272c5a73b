/- Parts of the proof: MdJ, Pp, MdH, MdG. -/
import Derived.Test.YthoagdpakddbdaaGreatDoorL15
namespace Go.Proofs.YthoagdpakddbdaaGreatDoor
open Go.RowKit Go.Proofs.Tryz
attribute [local go_sem ↓] Go.wp_at_zero Go.wp_at_succ
theorem tb_mark {ls:List (List Int)} {f g:Nat→Nat→Bool} {i q0:Nat} {l:List Int} (hl:ls[i]?=some l) (h0:∀ k q,k≠i→g k q=f k q) (h1:∀ q,q<(Qaj l).toNat→g i q=(f i q || q == q0)) :
 tb ls g=(tb ls f).set i (((List.range (Qaj l).toNat).map (f i)).set q0 true):=by
 apply List.ext_getElem?
 intro k
 by_cases e:i=k
 · subst e
   rw [Yg (by rw [Qfy];exact (Zs hl).1),Qei hl]
   congr 1
   apply List.ext_getElem?
   intro q
   by_cases hq:q<(Qaj l).toNat
   · rw [Yt,List.getElem?_range hq,Option.map_some,h1 q hq]
     by_cases e2:q0=q
     · subst e2
       rw [Yg (by simpa using hq)];simp
     · rw [Yh e2,Yt,List.getElem?_range hq,Option.map_some]
       congr 1
       have:(q == q0)=false:=by simpa using fun e=>e2 e.symm
       rw [this,Bool.or_false]
   · rw [Yd (by simp;omega),Yd (by simp;omega)]
 · rw [Yh e]
   cases hk:ls[k]? with
   | none=>rw [Yd (by rw [Qfy];exact List.getElem?_eq_none_iff.1 hk),Yd (by rw [Qfy];exact List.getElem?_eq_none_iff.1 hk)]
   | some l' =>
    rw [Qei hk,Qei hk]
    congr 1
    exact List.map_congr_left (fun q _=>h0 k q (fun e'=>e e'.symm))
def mrk (ls:List (List Int)) (f:Nat→Nat→Bool) (a b:Nat) (i q:Nat):Bool:=f i q || (Qah (ls.getD i []) (a:Int) == (q:Int) && Qah (ls.getD i []) (b:Int) == (q:Int))
def Qfn (ls:List (List Int)) (f:Nat→Nat→Bool) (a b k:Nat) (i q:Nat):Bool:=if i<k then mrk ls f a b i q else f i q
theorem Qvn (ls:List (List Int)) (f:Nat→Nat→Bool) (a b:Nat):Qfn ls f a b 0=f:=by
 funext i q
 unfold Qfn;rw [if_neg (by omega)]
theorem Qwj (ls:List (List Int)) (f:Nat→Nat→Bool) (a b:Nat):tb ls (Qfn ls f a b ls.length)=tb ls (mrk ls f a b):=Qdc (fun i l hl q _=>by
 unfold Qfn;rw [if_pos (Zs hl).1])
theorem Qxj {ls:List (List Int)} {f:Nat→Nat→Bool} {a b i z:Nat} {l:List Int} (hl:ls[i]?=some l) (ha:Qah l (a:Int)=(z:Int)) (hb:Qah l (b:Int)=(z:Int)) :
 tb ls (Qfn ls f a b (i+1))=(tb ls (Qfn ls f a b i)).set i (((List.range (Qaj l).toNat).map (Qfn ls f a b i i)).set z true):=by
 refine tb_mark hl (fun k q hk=>?_) (fun q _=>?_)
 · unfold Qfn
   by_cases e:k<i
   · rw [if_pos e,if_pos (by omega)]
   · rw [if_neg e,if_neg (by omega)]
 · unfold Qfn
   rw [if_pos (by omega),if_neg (by omega)];unfold mrk;rw [Qes hl,ha,hb,Bool.and_self]
   congr 1
   by_cases e:q=z
   · subst e;simp
   · have e1:(q == z)=false:=by simpa using e
     have e2:((z:Int) == (q:Int))=false:=by simp;omega
     rw [e1,e2]
theorem mrkTo_no {ls:List (List Int)} {f:Nat→Nat→Bool} {a b i:Nat} {l:List Int} (hl:ls[i]?=some l) (h:Qah l (a:Int)≠Qah l (b:Int)):tb ls (Qfn ls f a b (i+1))=tb ls (Qfn ls f a b i):=by
 refine Qdc (fun k l' hl' q _=>?_);unfold Qfn
 by_cases e:k<i
 · rw [if_pos e,if_pos (by omega)]
 · by_cases e2:k=i
   · subst e2
     rw [if_pos (by omega),if_neg (by omega)];unfold mrk;rw [Qes hl]
     have:(Qah l (a:Int) == (q:Int) && Qah l (b:Int) == (q:Int))=false:=by
      rw [Bool.and_eq_false_iff]
      by_cases e3:Qah l (a:Int)=(q:Int)
      · right
        simpa using fun e4=>h (e3.trans e4.symm)
      · left
        simpa using e3
     rw [this,Bool.or_false]
   · rw [if_neg e,if_neg (by omega)]
structure MkW (w:World) (B T:Nat) (cs:List Value) (bs:List Nat) (rows:List (List Bool)) (V:World):Prop where
 tl:TlW V B T cs bs rows
 kept:Qax (fun b=>b ∉ bs) w V
 size:w.heap.size≤V.heap.size
 bel:Below B w V
set_option maxRecDepth 20000 in
set_option maxHeartbeats 4000000 in
theorem Qyt (w:World)(B T L cq n a b:Nat)(Q:Option Addr)(cs:List Value)(bs:List Nat) (ls:List (List Int)) (f:Nat→Nat→Bool) (hT:TlW w B T cs bs (tb ls f)) (hq:RdT (msk w (fun k=>k ∉ bs)) Q L ls) (hL:L≤1000000) (hn:n≤1000000) (hlv:∀ l∈ls,Qfj n l) (ha:a<n) (hb:b<n) :
 Calls prog 67 #[.slice (some ⟨T,0,none⟩) L L,.slice Q L cq,.int .i64 a,.int .i64 b] w fun r w'=>r=.returned (.tuple #[])∧MkW w B T cs bs (tb ls (mrk ls f a b)) w':=by
 have HQ:=Zh hq;have HLV:=Zh hlv;have hll:=hq.1;have HT:=Zh (show MkW w B T cs bs (tb ls (Qfn ls f a b 0)) w from ⟨by rw [Qvn];exact hT,Qax.refl _ _,Zn _,Zr _ _⟩)
 clear hT hq hlv;have a0:¬((a:Int)<0):=by omega
 have b0:¬((b:Int)<0):=by omega
 have a1:(0:Int)≤(a:Int):=by omega
 have b1:(0:Int)≤(b:Int):=by omega
 go_enter func67,ntmps67
 go_wp2_with fail
 go_loopw [13] (fun q V=>∃ i:Nat,i≤L∧q=.int .i64 i∧MkW w B T cs bs (tb ls (Qfn ls f a b i)) V) (fun q _=>L-(intOf q).toNat)
 case atStart=>exact ⟨0,Nat.zero_le _,rfl,HT.out⟩
 case round =>
  clear HT;obtain ⟨i,hi,rfl,hm⟩:=hrel;have HM:=Zh hm;clear hm
  by_cases hlt:i<L
  rotate_left
  · obtain rfl:i=L:=by omega
    have i3:¬((i:Int)<(i:Int)):=by omega
    go_wp2_with fail
    go_end0
    refine ⟨rfl,?_⟩;have:=HM.out;rw [←hll,Qwj] at this;exact this
  obtain ⟨l,hl⟩:∃ l,ls[i]?=some l:=⟨_,Zg (by rw [hll];exact hlt)⟩;have hlo:=HLV.out l (Zm hl);obtain ⟨qb,qo,A2,n2,c2,l',rfl,hl',q1,q2,q3,q4⟩:=(HQ.out.le (HM.out.kept.msk.trans (Qbh _ _))).at_ hlt;rw [hl] at hl'
  cases hl'
  obtain rfl:n2=n:=by rw [←q2.1];exact hlo.len
  obtain ⟨rb,ro,za,rfl,hza,d1⟩:=q2.at_ ha;obtain ⟨rb',ro',zb,e',hzb,d2⟩:=q2.at_ hb
  cases e'
  have ma:=Zm hza;obtain ⟨z,rfl⟩:∃ z:Nat,za=z:=⟨za.toNat,by have:=hlo.lo _ ma;omega⟩;have hzM:z<(Qaj l).toNat:=by have:=Qob ma;omega
  have ea:Qah l (a:Int)=(z:Int):=Qbg hza;have eb:Qah l (b:Int)=zb:=Qbg hzb;obtain ⟨bi,hbi,hcs,hbk,hBb,hbT⟩:=HM.out.tl.get (Qei (f:=Qfn ls f a b i) hl);have hcc:=HM.out.tl.cell hcs;rw [List.length_map,List.length_range] at hcc;have hfr:=hbk.frozen z;obtain ⟨vb,hvb⟩:∃ vb:Bool,((List.range (Qaj l).toNat).map (Qfn ls f a b i i))[z]?=some vb:=⟨_,Zg (by simpa using hzM)⟩;have hcb:=hbk.cellB hvb;obtain ⟨M,hMe⟩:∃ M,M=(Qaj l).toNat:=⟨_,rfl⟩;rw [←hMe] at hcc hzM;have i3:(i:Int)<(L:Int):=by omega
  have i4:(0:Int)≤(i:Int):=by omega
  have i5:¬((L:Int)≤(i:Int)):=by omega
  have i6:¬((n2:Int)≤(a:Int)):=by omega
  have i7:¬((n2:Int)≤(b:Int)):=by omega
  have i8:(a:Int)<(n2:Int):=by omega
  have i9:(b:Int)<(n2:Int):=by omega
  have j1:(0:Int)≤(z:Int):=by omega
  have j2:(z:Int)<(M:Int):=by omega
  have HLK:=Zh hl;have HEA:=Zh ea;have HEB:=Zh eb;have HBI:=Zh hbi;clear hl hlo q2 q3 q4 ma hza hzb ea eb hbi hcs hbk hMe hvb
  by_cases hz:(z:Int)=zb
  · subst hz
    have HM2:=Zh (show MkW w B T cs bs (tb ls (Qfn ls f a b (i+1))) (wr.setCell ⟨bi,z,none⟩ (.bool true)) by
     have hmm:=HM.out;rw [Qxj HLK.out HEA.out HEB.out];exact ⟨hmm.tl.mark HBI.out (Qei HLK.out) true,hmm.kept.trans (Qax.set _ _ _ _ (fun h=>h (Zm HBI.out))) hmm.size,by simpa [World.setCell] using hmm.size,hmm.bel.setCell hBb _⟩)
    clear HM
    go_wp2_with fail
    go_roundw
    case rel=>exact ⟨i+1,by omega,by go_num,HM2.out⟩
    case measure=>simp [intOf];omega
  · have HM2:=Zh (show MkW w B T cs bs (tb ls (Qfn ls f a b (i+1))) wr by
     rw [mrkTo_no HLK.out (by rw [HEA.out,HEB.out];exact hz)];exact HM.out)
    clear HM
    go_wp2_with fail
    go_roundw
    case rel=>exact ⟨i+1,by omega,by go_num,HM2.out⟩
    case measure=>simp [intOf];omega
section
variable {w V V':World} {B T:Nat} {cs:List Value} {bs:List Nat} {rows rows':List (List Bool)}
theorem MkW.start (h:TlW w B T cs bs rows):MkW w B T cs bs rows w:=⟨h,Qax.refl _ _,Zn _,Zr _ _⟩
theorem MkW.trans (h:MkW w B T cs bs rows V)(g:MkW V B T cs bs rows' V'):MkW w B T cs bs rows' V':=⟨g.tl,h.kept.trans g.kept h.size,Yx h.size g.size,h.bel.trans g.bel⟩
theorem MkW.below (h:MkW w B T cs bs rows V)(hb:Below V.heap.size V V'):MkW w B T cs bs rows V':=⟨h.tl.below hb,h.kept.trans (Qax.below hb) h.size,Yx h.size hb.size,h.bel.trans (hb.mono (by have:=h.tl.box.lt;have:=h.tl.lo;omega))⟩
theorem MkW.le (h:MkW w B T cs bs rows V):Le (msk w (fun b=>b ∉ bs)) V:=h.kept.msk.trans (Qbh _ _)
end
theorem Qka {W W':World}{G G':Nat→Prop}(h:∀ b,G b→G' b)(hl:Le W W'):Le (msk W G) (msk W' G'):=fun _ _ hc=>Qao.2 ⟨h _ (Qao.1 hc).1,hl _ _ (Qao.1 hc).2⟩
theorem Qax.blkM {G:Nat→Prop}{v V:World}{g:Nat}{t:TypeId}{cs:Array Value}(h:Qax G v V)(hb:Blk v g t cs)(hg:G g):Blk V g t cs:=(h g hg hb.lt).trans hb
theorem infoQ:(Tryz.prog.info? 80).map (fun i=>(i.zero,i.size,i.bytes))=some (some (.slice none 0 0),1,24):=by kernel_rfl
theorem Qql (n:Nat)(hn:n≤1000000)(W:World):(Instr.makeSlice 40 (.int .i64 (n:Int)) (.int .i64 (n:Int))).run prog W=.ok (.slice (some ⟨W.heap.size,0,none⟩) n n) (W.alloc (.cells (Qbd (.slice none 0 0) n) 80)) :=
 Qeb (P:=prog) 40 80 (.slice none 0 0) 24 infoQ underlying40 rfl n (by omega) (by omega) .i64 .i64 W
def noM (_i _q:Nat):Bool:=false
theorem noM_row {ls:List (List Int)} {i:Nat} {l:List Int} (h:ls[i]?=some l):(tb ls noM)[i]?=some (List.replicate (Qaj l).toNat false):=by
 rw [Qei h]
 congr 1
 apply List.ext_getElem?
 intro q
 by_cases hq:q<(Qaj l).toNat
 · rw [Yt,List.getElem?_range hq,List.getElem?_replicate,if_pos hq]
   rfl
 · rw [Yd (by simp;omega),Yd (by simp;omega)]
theorem TlW.push {W:World}{B T:Nat}{cs:List Value}{bs:List Nat} {rows:List (List Bool)} (h:TlW W B T cs bs rows) {M:Nat} (hc:rows.length<cs.length) :
 TlW ((W.setCell ⟨T,rows.length,none⟩ (.slice (some ⟨W.heap.size,0,none⟩) M M)).alloc (.cells (Qbd (.bool false) M) 4)) B T (cs.set rows.length (.slice (some ⟨W.heap.size,0,none⟩) M M)) (bs ++[W.heap.size]) (rows ++[List.replicate M false]):=by
 have hz:Qbd (.bool false) M=Qca (List.replicate M false):=by simp [Qbd,Qca]
 have hbl:∀ b∈bs,b<W.heap.size:=fun b hb=>by
  obtain ⟨i,hi⟩:=Yr hb;obtain ⟨r,hr⟩:∃ r,rows[i]?=some r:=⟨_,Zg (by rw [←h.n];exact (Zs hi).1)⟩;exact (h.row i b r hi hr).lt
 have hTl:=h.box.lt;have hTb:∀ b∈bs,T≠b:=fun b hb e=>(h.blo b hb).2 e.symm
 refine ⟨h.lo,?_,by simp [h.n],fun i b r h1 h2=>?_,fun i b r h1 h2=>?_,fun b hb=>?_,?_⟩
 · have:=(h.box.set_ rows.length (.slice (some ⟨W.heap.size,0,none⟩) M M)).alloc (.cells (Qbd (.bool false) M) 4)
   simpa using this
 · rcases Nat.lt_trichotomy i rows.length with e|e|e
   · rw [Yc (by rw [h.n];exact e)] at h1
     rw [Yc e] at h2;rw [Yh (by omega)];exact h.at_ i b r h1 h2
   · subst e
     rw [←h.n,Yb (Zn _),Yy] at h1;rw [Yb (Zn _),Yy] at h2
     cases h1
     cases h2
     rw [Yg hc,List.length_replicate]
   · rw [Yd (by simp;omega)] at h2;cases h2
 · rcases Nat.lt_trichotomy i rows.length with e|e|e
   · rw [Yc (by rw [h.n];exact e)] at h1
     rw [Yc e] at h2;exact ((h.row i b r h1 h2).far_ (fun e2=>hTb b (Zm h1) e2.symm) _).alloc _
   · subst e
     rw [←h.n,Yb (Zn _),Yy] at h1;rw [Yb (Zn _),Yy] at h2
     cases h1
     cases h2
     rw [hz];refine Blk.new' _ _ _ ?_;rw [World.size_setCell]
   · rw [Yd (by simp;omega)] at h2;cases h2
 · rcases List.mem_append.1 hb with hb|hb
   · exact h.blo b hb
   · rw [List.mem_singleton.1 hb]
     have:=h.lo;exact ⟨by omega,by omega⟩
 · rw [List.nodup_append]
   refine ⟨h.nd,by simp,fun a ha b hb e=>?_⟩;rw [List.mem_singleton.1 hb] at e;have:=hbl a ha;omega
theorem TlW.kept {W W':World}{G:Nat→Prop}{B T:Nat}{cs:List Value}{bs:List Nat} {rows:List (List Bool)} (h:TlW W B T cs bs rows) (hk:Qax G W W') (hG:∀ b,B≤b→G b):TlW W' B T cs bs rows :=
 ⟨h.lo,hk.blkM h.box (hG T h.lo),h.n,h.at_,fun i b r h1 h2=>hk.blkM (h.row i b r h1 h2) (hG b (h.blo b (Zm h1)).1),h.blo,h.nd⟩
theorem Qwe {f:Nat→Nat→Bool}{i q:Nat}(l:List Int) (hq:q<(Qaj l).toNat):((List.range (Qaj l).toNat).map (f i))[q]?=some (f i q):=by
 rw [Yt,List.getElem?_range hq]
 rfl
def TlP (w:World)(L:Nat) (rows:List (List Bool)) (r:Ending) (w':World):Prop :=
 ∃ T cs bs,r=.returned (.tuple #[.slice (some ⟨T,0,none⟩) L L,.nilIface])∧TlW w' w.heap.size T cs bs rows∧Below w.heap.size w w'
set_option maxHeartbeats 1000000 in
theorem Qyw (o:Nat)(ar:List Tri) (ls:List (List Int)) (w:World) (h:Qfm w o ar ls) (hL:ls.length≤1000000) (hc:∀ l∈ls,l.length≤1000000) :
 Calls prog 66 #[.pointer (some ⟨o,0,none⟩)] w fun e w'=>∃ Q' cq',e=.returned (.agg #[.slice Q' ls.length cq'])∧RdT (msk w' (fun b=>w.heap.size≤b∧b<w'.heap.size)) Q' ls.length ls∧Below w.heap.size w w':=by
 obtain ⟨Q,F,T,G,S,L,m,cq,cf,ct,cg,cs,h⟩:=h;have h0:=h.n0;have hl:ls.length=L:=h.part.1;rw [hl] at hL ⊢;have HT:=Zh h.part;have HC:=Zh hc;have hol:=Qae h0;simp only at hol;clear h hc hl
 go_enter func66,ntmps66
 go_wp2_with fail
 (refine Qac ?_;intro w1 hw1)
 have hb1:Below w.heap.size w w1:=by rw [hw1];exact Qaf
 have hR1:Blk w1 w.heap.size 89 #[.slice none 0 0]:=by rw [hw1];exact Qaz
 have hz1:w.heap.size+1≤w1.heap.size:=by rw [hw1];simp
 clear hw1;with_reducible refine (Qsq Q L cq ls _ (HT.out.below hb1) hL HC.out).mono ?_
 rintro e w2 ⟨Q',cq',rfl,hrw,_,_,hb2⟩;have hR2:=hR1.below hb2 hR1.lt;have r0:=hR2.cell 0;simp only [Yo,Yn] at r0;have f0:=hR2.frozen 0;have hb2':=Zb hb1 hb2
 have HW:=Zh (show RdT (msk (w2.setCell ⟨w.heap.size,0,none⟩ (.slice Q' L cq')) (fun b=>w.heap.size≤b∧b<(w2.setCell ⟨w.heap.size,0,none⟩ (.slice Q' L cq')).heap.size)) Q' L ls from
  hrw.le ((Qax.set w2 w.heap.size 0 (.slice Q' L cq') (by omega)).msk.trans (Qay (fun b hb=>⟨by omega,by have:=hb.2;simpa [World.setCell] using this⟩))))
 have hbe:Below w.heap.size w (w2.setCell ⟨w.heap.size,0,none⟩ (.slice Q' L cq')):=hb2'.setCell (Zn _) _;clear hrw hb2 hR1 hb1 h0
 go_wp2_with fail
 refine bodyPost_ret (v:=.agg #[.slice Q' L cq']) (by simp [results,results66,go_sem,r0]) rfl ?_;exact ⟨_,_,rfl,HW.out,hbe⟩
theorem Qid {N:Qai} {ls:List (List Int)} {l:List Chn} {k:Nat} {c:Chn} (h:l[k]?=some c) (i q:Nat):Qdl N ls (l.take (k+1)) i q=(Qdl N ls (l.take k) i q || chgM N c (ls.getD i []) q):=by
 unfold Qdl;rw [Yf (Zs h).1,(Zs h).2,Qxy]
set_option maxHeartbeats 1000000 in
theorem Qsb (w:World)(g o:Nat)(N:Qai)(A:Option Addr)(n cA:Nat)(l:List Chn)(hg:Qgm w g N)(hok:Qav N)(hl:Qig w A n l)(hn:n≤9223372036854775807) (ps:List (ByteArray×Int)) (c0:Int) (h:Ck N l ps c0) (hc0:c0≠0) :
 Calls prog 28 #[.pointer (some ⟨g,0,none⟩),.pointer (some ⟨o,0,none⟩),.slice A n cA] w fun r w'=>∃ v,r=.returned (.tuple #[.slice none 0 0,v])∧Qcm w' v ps c0∧Below w.heap.size w w':=by
 have HC:=Zh (Qks w g N A n cA l hg hok hl hn ps c0 h);clear hg hok hl h
 go_enter func28,ntmps28
 go_wp2_with fail
 with_reducible refine HC.out.mono ?_
 rintro r w1 ⟨v,rfl,he,hb1⟩
 have hch:Qcm w1 v ps c0:=by
  rcases he with ⟨h,_⟩|⟨_,h⟩
  · exact absurd h hc0
  · exact h
 obtain ⟨tv,xv,rfl⟩:=Qcb hch;have HCH:=Zh hch;clear HC he hch
 go_wp2_with fail
 refine bodyPost_ret (v:=.tuple #[.slice none 0 0,.iface tv xv]) (by simp [results,results28,go_sem]) rfl ?_;exact ⟨_,rfl,HCH.out,hb1⟩
theorem Blk.chn {w:World}{g:Nat}{t:TypeId}{a b c d e:Value} (h:Blk w g t #[a,b,c,d,e]) :
 w.cell? ⟨g,0,none⟩=some a∧w.cell? ⟨g,1,none⟩=some b∧w.cell? ⟨g,2,none⟩=some c∧w.cell? ⟨g,3,none⟩=some d∧w.cell? ⟨g,4,none⟩=some e :=
 ⟨Zq h,Zq h,Zq h,Zq h,Zq h⟩
set_option maxRecDepth 20000 in
set_option maxHeartbeats 8000000 in
theorem Qub (w:World)(g o:Nat)(N:Qai) (ls:List (List Int)) (A:Option Addr) (n cA:Nat) (l:List Chn) (hg:Qgm w g N) (hok:Qav N) (ho:Qfm w o N.ar ls) (hP:Qbw N.vs.length ls) (hl:Qig w A n l) (hb:Qcj N l) (hl256:l.length≤256) :
 Calls prog 28 #[.pointer (some ⟨g,0,none⟩),.pointer (some ⟨o,0,none⟩),.slice A n cA] w (TlP w ls.length (tb ls (Qdl N ls l))):=by
 have hln:=hl.1;have hL6:=hP.l6;have hlv:=hok.lv;have HL:=Zh hl;have HB:=Zh hb;have HP:=Zh hP;have HG:=Zh hg;have HO:=Zh ho;have HOK:=Zh hok;have HC:=Zh (Qks w g N A n cA l hg hok hl (by omega) [] 0 (hb.ck hl256));obtain ⟨L,hLe⟩:∃ L,L=ls.length:=⟨_,rfl⟩;rw [←hLe] at hL6 ⊢;have HLE:=Zh hLe;have hmkQ:=Qql L (by omega);clear hl hb hP hg ho hok hLe
 go_enter func28,ntmps28
 go_wp2_with fail
 with_reducible refine HC.out.mono ?_
 rintro r w1 ⟨v,rfl,he,hb1⟩
 obtain rfl:v=.nilIface:=by
  rcases he with ⟨_,h⟩|⟨h,_⟩
  · exact h
  · exact absurd rfl h
 have HLV:=Zh (Qhe o N.ar ls w1 (HO.out.below hb1));rw [←HLE.out] at HLV;clear HC he
 go_wp2_with fail
 with_reducible refine HLV.out.mono ?_
 rintro e w' ⟨rfl,rfl⟩
 go_wp2_with fail
 (refine Qag ?_;intro w2 hw2)
 have hb2:Below w1.heap.size w1 w2:=by rw [hw2];exact Qaf
 have hT2:TlW w2 w.heap.size w1.heap.size (List.replicate L (.slice none 0 0)) [] []:=by
  rw [hw2];refine TlW.start ?_ hb1.size;have e:Qbd (.slice none 0 0) L=(List.replicate L (Value.slice none 0 0)).toArray:=by simp [Qbd]
  rw [e];exact Blk.new _ _ _
 obtain ⟨T,hTe⟩:∃ T,T=w1.heap.size:=⟨_,rfl⟩;rw [←hTe] at hT2 hb2 ⊢;have hb12:Below w.heap.size w w2:=hb1.trans (hb2.mono (by rw [hTe];exact hb1.size));clear hw2 hmkQ HLV hb2 hTe hb1
 go_loopw [28] (fun q V=>Below w.heap.size w V∧∃ (i:Nat) (cs:List Value) (bs:List Nat),i≤L∧q=.int .i64 i∧cs.length=L∧TlW V w.heap.size T cs bs ((tb ls noM).take i)) (fun q _=>L-(intOf q).toNat)
 case atStart=>exact ⟨hb12,0,List.replicate L (.slice none 0 0),[],Nat.zero_le _,rfl,by simp,by simpa using hT2⟩
 case round =>
  clear hb12 hT2;obtain ⟨hbl,i,cs,bs,hi,rfl,hcl,hT⟩:=hrel
  by_cases hlt:i<L
  · obtain ⟨r0,hr0⟩:∃ r0,ls[i]?=some r0:=⟨_,Zg (by rw [←HLE.out];exact hlt)⟩
    obtain ⟨M,hM⟩:∃ M,M=(Qaj r0).toNat:=⟨_,rfl⟩;have HCE:=Zh (Qfp o i M N.ar ls r0 wr (HO.out.below hbl) hr0 (by rw [←HLE.out];omega) hM.symm)
    have hMb:M≤4096:=by
     have h1:=HP.out.lvl r0 (Zm hr0);have h2:=Qbq (l:=r0) (n:=(N.vs.length:Int)) (fun x hx=>h1.hi x hx) (by omega);omega
    have hmk:=Qft M (by omega);have hrl:((tb ls noM).take i).length=i:=by rw [Yw,Qfy,←HLE.out];omega
    have HTN:=Zh (show (tb ls noM).take (i+1)=(tb ls noM).take i ++[List.replicate M false] by
     have h1:=noM_row hr0;rw [←hM] at h1;rw [Yf (Zs h1).1,(Zs h1).2])
    have hpush:=hT.push (M:=M) (by rw [hrl,hcl];exact hlt);rw [hrl,←HTN.out] at hpush;have HPU:=Zh hpush;have HCL:=Zh hcl;have hTl:=hT.box.lt;have hTf:=hT.box.frozen i;have hcc:wr.cell? ⟨T,i,none⟩=cs[i]?:=by rw [hT.box.cell];simp
    obtain ⟨u0,hu0⟩:∃ u,cs[i]?=some u:=⟨_,Zg (by rw [hcl];exact hlt)⟩;rw [hu0] at hcc;have hTB:=hT.lo;have i3:(i:Int)<(L:Int):=by omega
    have i4:(0:Int)≤(i:Int):=by omega
    clear hr0 hM hpush hT hu0 hcl hrl
    go_wp2_with fail
    with_reducible refine HCE.out.mono ?_
    rintro e w' ⟨rfl,rfl⟩
    go_wp2_with fail
    go_roundw
    case rel=>exact ⟨Qaf,i+1,_,_,by omega,by go_num,by rw [Yq];exact HCL.out,HPU.out⟩
    case measure=>simp [intOf];omega
  obtain rfl:i=L:=by omega
  have i3:¬((i:Int)<(i:Int)):=by omega
  rw [Ye (by rw [Qfy,←HLE.out];exact Zn _)] at hT;have HT:=Zh hT;have hTl:=hT.box.lt;have hTB:=hT.lo;have HBL:=Zh hbl;clear hT hcl hi hlt
  by_cases h0:n=0
  · have hl0:l=[]:=List.eq_nil_of_length_eq_zero (by omega)
    subst hl0;have HT2:=Zh (show TlW wr w.heap.size T cs bs (tb ls (Qdl N ls [])) from HT.out)
    subst h0;clear HT
    go_wp2_with fail
    refine bodyPost_ret (v:=.tuple #[.slice (some ⟨T,0,none⟩) i i,.nilIface]) (by simp [results,results28,go_sem]) rfl ?_;exact ⟨T,cs,bs,rfl,HT2.out,hbl⟩
  have i4:¬((n:Int)=0):=by omega
  have HPT:=Zh (Qyw o N.ar ls wr (HO.out.below hbl) (by rw [←HLE.out];omega) (fun l hl=>by rw [(HP.out.lvl l hl).len];omega));rw [←HLE.out] at HPT
  go_wp2_with fail
  with_reducible refine HPT.out.mono ?_
  rintro r w3 ⟨Q,cq,rfl,hQ,hb3⟩;have hfl:∀ V,(Instr.field 89 (.agg #[.slice Q i cq]) 0).run prog V=.ok (.slice Q i cq) V:=fun V=>by rfl
  have HT3:=Zh (HT.out.below hb3);have hbw3:=Zb hbl hb3;have HNT:=Zh (Qpx g N w3 (HG.out.below hbw3));have HQ3:=Zh hQ
  have hbsl:∀ b∈bs,b<wr.heap.size:=fun b hb=>by
   obtain ⟨k,hk⟩:=Yr hb;obtain ⟨r,hr⟩:∃ r,(tb ls noM)[k]?=some r:=⟨_,Zg (by rw [←HT.out.n];exact (Zs hk).1)⟩;exact (HT.out.row k b r hk hr).lt
  have hbsB:∀ b∈bs,w.heap.size≤b:=fun b hb=>(HT.out.blo b hb).1
  have HBS:=Zh hbsl;have HBB:=Zh hbsB;have hz3:=hb3.size;clear hQ HT HPT hbsl hbsB hbl
  go_wp2_with fail
  with_reducible refine HNT.out.mono ?_
  rintro r w4 ⟨A1,B1,C1,a1,b1,c1,rfl,_,_,hN4,hb4⟩;have hz4:=hb4.size;have HT4:=Zh (HT3.out.below hb4);have HN4:=Zh hN4;have HQ4:=Zh (show RdT (msk w4 (fun k=>k ∉ bs)) Q i ls from HQ3.out.le (Qka (fun b hb hm=>by have:=HBS.out b hm;omega) (Le.below hb4)))
  have hbw4:=Zb hbw3 hb4;clear hN4 hfl HNT HT3 HQ3 hb3 hb4 hbw3
  go_wp2_with fail
  (refine Qag ?_;intro w5 hw5)
  have hb5:Below w4.heap.size w4 w5:=by rw [hw5];exact Qaf
  have hX5:Blk w5 w4.heap.size 120 #[.slice A1 N.vs.length a1,.slice B1 N.ar.length b1,.slice C1 N.ts.length c1]:=by rw [hw5];exact Qaz
  have hbw5:=Zb hbw4 hb5;have HN5:=Zh (show Qbc (msk w5 (fun k=>k ∉ bs)) A1 B1 C1 N.vs.length N.ar.length N.ts.length N from HN4.out.le (Qka (fun b hb hm=>by have:=HBS.out b hm;omega) (Le.below hb5)))
  have HQ5:=Zh (show RdT (msk w5 (fun k=>k ∉ bs)) Q i ls from HQ4.out.le ((Qax.below hb5).msk))
  have HT5:=Zh (show MkW w5 w.heap.size T cs bs (tb ls (Qdl N ls (l.take 0))) w5 from MkW.start (HT4.out.below hb5))
  have HX5:=Zh hX5;have hx5:w4.heap.size ∉ bs:=fun hm=>by have:=HBS.out _ hm;omega
  have HBW5:=Zh hbw5;have hz5:=hb5.size;have HXN:=Zh hx5;obtain ⟨xN,hxN⟩:∃ xN,xN=w4.heap.size:=⟨_,rfl⟩;rw [←hxN] at HX5 HXN ⊢;have HBS5:=Zh (show ∀ b∈bs,b<w5.heap.size from fun b hm=>by have:=HBS.out _ hm;omega)
  clear hw5 hb5 hX5 hbw5 hx5 hxN HN4 HQ4 HT4 HBS hbw4
  go_loopw [51] (fun q V=>∃ j:Nat,j≤n∧q=.int .i64 j∧MkW w5 w.heap.size T cs bs (tb ls (Qdl N ls (l.take j))) V) (fun q _=>n-(intOf q).toNat)
  case atStart=>exact ⟨0,Nat.zero_le _,rfl,HT5.out⟩
  case round =>
   clear HT5 hTl;obtain ⟨j,hj,rfl,hm⟩:=hrel;have HM:=Zh hm;clear hm;have hbw:Below w.heap.size w wr:=HBW5.out.trans HM.out.bel
   by_cases hlt:j<n
   rotate_left
   · obtain rfl:j=n:=by omega
     have i3:¬((j:Int)<(j:Int)):=by omega
     have HM2:=HM.out;rw [Ye (by omega)] at HM2;have HM3:=Zh HM2;clear HM HM2
     go_wp2_with fail
     refine bodyPost_ret (v:=.tuple #[.slice (some ⟨T,0,none⟩) i i,.nilIface]) (by simp [results,results28,go_sem]) rfl ?_;exact ⟨T,cs,bs,rfl,HM3.out.tl,hbw⟩
   obtain ⟨lb,lo,x,y,z,u,v,rfl,hc,c1',c2',c3',c4',c5'⟩:=(HL.out.below hbw).at_ hlt;have hco:=HB.out.all _ (Zm hc);have HCJ:=Zh hc;have i5:(j:Int)<(n:Int):=by omega
   have i6:(0:Int)≤(j:Int):=by omega
   have hcl:=Qae c1';simp only at hcl;have hwl:w5.heap.size≤wr.heap.size:=HM.out.size;clear hc
   rcases hco with ⟨a,hs⟩|⟨p,ii,t,hbn⟩
   · have hk:=hs.k;have hat:=hs.at_
     simp only at hk hat;subst hk;subst hat;obtain ⟨⟨ax,ay,aw⟩,ha⟩:∃ e,N.ar[a]?=some e:=⟨_,Zg hs.lt⟩;have hao:=HOK.out.arcs _ (Zm ha);have f0:=hao.f0;have f1:=hao.f1;have g0:=hao.g0;have g1:=hao.g1;simp only at f0 f1 g0 g1;obtain ⟨va,rfl⟩:∃ va:Nat,ax=va:=⟨ax.toNat,by omega⟩;obtain ⟨vb,rfl⟩:∃ vb:Nat,ay=vb:=⟨ay.toNat,by omega⟩;have HMK:=Zh (fun (r:List Int) (q:Nat)=>hs.marks ha r q);have HAA:=Zh ha;clear hs hao ha
     go_wp2_with fail
     (refine Qag ?_;intro w6 hw6)
     have hb6:Below wr.heap.size wr w6:=by rw [hw6];exact Qaf
     have hX6:Blk w6 wr.heap.size 83 #[.int .i64 1,.int .i64 a,.int .i64 z,.int .i64 u,.int .i64 v]:=by rw [hw6];exact Qaz
     have hbw6:=Zb hbw hb6;have HM6:=Zh (HM.out.below hb6);have HX6:=Zh hX6;clear hw6 hb6 c1' c2' c3' c4' c5' hcl HM hbw;have HSX:=Zh (show ∀ V,Below w6.heap.size w6 V→V.cell? ⟨wr.heap.size,1,none⟩=some (.int .i64 a)∧V.cell? ⟨wr.heap.size,4,none⟩=some (.int .i64 v) from fun V hV=>⟨by rw [(HX6.out.below hV HX6.out.lt).cell];rfl,by rw [(HX6.out.below hV HX6.out.lt).cell];rfl⟩)
     obtain ⟨x0,x1,x2,x3,x4⟩:=hX6.chn;clear hX6 x1 x2 x3 x4
     go_wp2_with fail
     clear x0;refine wp_region_held_drew (S:=fun V=>Below w6.heap.size w6 V) (by kernel_rfl) (Zr _ _).drew (fun _=>?_);refine tz 0 59 ?_;refine tz 1 60 ?_;refine tz 2 61 ?_;refine tz 4 63 ?_;refine tz 5 64 ?_;refine Zk 3 (fun K hK=>?_);go_simp;with_reducible refine (Qet g a N _ _ (HG.out.below (hbw6.trans ((Zr _ _).drew.mono (by have:=hbw6.size;omega)))) HAA.out).mono ?_
     rintro r w' ⟨rfl,rfl⟩;go_simp;refine hK.out _ _ (Zr _ _).drew (fun _=>?_);clear hK K;refine tz 6 65 ?_;refine Zd ?_;clear HSX;have hbw7:Below w.heap.size w w6.drew:=hbw6.drew
     by_cases hwe:aw=v
     · have HM9:=Zh (show MkW w5 w.heap.size T cs bs (tb ls (Qdl N ls (l.take (j+1)))) w6.drew by
        have e:tb ls (Qdl N ls (l.take (j+1)))=tb ls (Qdl N ls (l.take j)):=Qdc (fun k r hr q _=>by
         rw [Qid HCJ.out,HMK.out];simp [Chn.w,hwe])
        rw [e];exact HM6.out.below (Zr _ _).drew)
       have HWE:=Zh hwe;subst hwe;clear HM6 HX6 HMK hbw6 hbw7
       go_wp2_with fail
       go_roundw
       case rel=>exact ⟨j+1,by omega,by go_num,HM9.out⟩
       case measure=>simp [intOf];omega
     have HWE:=Zh hwe
     go_wp2_with fail
     have HX7:=Zh (HX6.out.drew);have HM7:=Zh (HM6.out.below (Zr _ _).drew);have HSX:=Zh (show ∀ V,Blk V wr.heap.size 83 #[.int .i64 1,.int .i64 a,.int .i64 z,.int .i64 u,.int .i64 v]→V.cell? ⟨wr.heap.size,1,none⟩=some (.int .i64 a) from fun V hV=>Zq hV)
     clear hwe HX6 HM6 hbw6;obtain ⟨w7,hw7⟩:∃ W,W=w6.drew:=⟨_,rfl⟩;rw [←hw7] at HX7 HM7 hbw7 ⊢;clear hw7;refine wp_region_held_drew (S:=fun V=>Blk V wr.heap.size 83 #[.int .i64 1,.int .i64 a,.int .i64 z,.int .i64 u,.int .i64 v]) (by kernel_rfl) HX7.out.drew (fun _=>?_);refine tz 0 66 ?_;refine tz 1 67 ?_;refine tz 2 68 ?_;refine tz 3 69 ?_;refine tz 4 70 ?_;refine tz 6 72 ?_;refine tz 7 73 ?_;refine tz 8 74 ?_;refine Zk 5 (fun K hK=>?_);go_simp;with_reducible refine (Qhr g a N _ _ (HG.out.below hbw7.drew) HAA.out).mono ?_
     rintro r w' ⟨rfl,rfl⟩;go_simp;refine hK.out _ _ HX7.out.drew (fun _=>?_);clear hK K;refine Zk 9 (fun K hK=>?_);go_simp;with_reducible refine (Qlz g a N _ _ (HG.out.below hbw7.drew) HAA.out).mono ?_
     rintro r w' ⟨rfl,rfl⟩;go_simp;refine hK.out _ _ HX7.out.drew (fun _=>?_);clear hK K;have HM8:=Zh (HM7.out.below (Zr _ _).drew);refine Zk 10 (fun K hK=>?_);go_simp;with_reducible refine (Qyt w7.drew w.heap.size T i cq N.vs.length va vb Q cs bs ls (Qdl N ls (l.take j)) HM8.out.tl (HQ5.out.le HM8.out.kept.msk) (by omega) (by omega) HP.out.lvl (by omega) (by omega)).mono ?_
     rintro r w8 ⟨rfl,hm8⟩
     have HM9:=Zh (show MkW w5 w.heap.size T cs bs (tb ls (Qdl N ls (l.take (j+1)))) w8 by
      have e:tb ls (Qdl N ls (l.take (j+1)))=tb ls (mrk ls (Qdl N ls (l.take j)) va vb):=Qdc (fun k r hr q _=>by
       rw [Qid HCJ.out,HMK.out];unfold mrk;have hne:(aw != v)=true:=by simpa using HWE.out
       show (_ || (aw != v && _))=_
       rw [hne,Bool.true_and])
      rw [e];exact HM8.out.trans hm8)
     have hX8:=hm8.kept.blkM HX7.out.drew (fun hm=>by have:=HBS5.out _ hm;omega);clear hm8;go_simp;refine hK.out _ _ hX8 (fun _=>?_);clear hK K;refine Zd ?_;clear HSX HM7 HM8 HX7 HMK hX8 hbw7
     go_wp2_with fail
     go_roundw
     case rel=>exact ⟨j+1,by omega,by go_num,HM9.out⟩
     case measure=>simp [intOf];omega
   · have hk:=hbn.k;have hat:=hbn.at_
     simp only at hk hat;subst hk;subst hat;have HMK:=Zh (fun (r:List Int) (q:Nat)=>hbn.marks r q);have htt:=hbn.tt;have htab:=HOK.out.tabs t (Zm htt);obtain ⟨ti,tO,ci,co,cost,rfl,e1,e2,q1,q2,rfl⟩:=hbn.nat HOK.out;simp only at e1 e2;subst e1;subst e2;have hpl:=(Zs htt).1;have HTT:=Zh htt;have HTAB:=Zh htab;have i7:(0:Int)≤(p:Int):=by omega
     have i8:(p:Int)<(N.ts.length:Int):=by omega
     clear hbn htt htab
     go_wp2_with fail
     (refine Qag ?_;intro w6 hw6)
     have hb6:Below wr.heap.size wr w6:=by rw [hw6];exact Qaf
     have hX6:Blk w6 wr.heap.size 83 #[.int .i64 2,.int .i64 p,.int .i64 ci,.int .i64 co,.int .i64 v]:=by rw [hw6];exact Qaz
     have hbw6:=Zb hbw hb6;have HM6:=Zh (HM.out.below hb6);have HX6:=Zh hX6;have HN6:=Zh (HN5.out.le HM6.out.kept.msk);obtain ⟨tb_,to_,eC,d0,d1,A2,n2,c2,d2,hr2,hcap2⟩:=(HN6.out.le (Qbh _ _)).2.2.2 p _ HTT.out;subst eC;simp only at d0 d1 hr2;have hxN6:=HM6.out.kept.blkM HX5.out HXN.out;have HXN6:=Zh hxN6;have HR2:=Zh hr2;clear hw6 hb6 c1' c2' c3' c4' c5' hcl HM hbw hxN6
     have HSX:=Zh (show ∀ V,Below w6.heap.size w6 V→V.cell? ⟨xN,2,none⟩=some (.slice (some ⟨tb_,to_,none⟩) N.ts.length c1)∧V.cell? ⟨wr.heap.size,1,none⟩=some (.int .i64 p)∧V.cell? ⟨wr.heap.size,2,none⟩=some (.int .i64 ci)∧V.cell? ⟨wr.heap.size,3,none⟩=some (.int .i64 co)∧V.cell? ⟨wr.heap.size,4,none⟩=some (.int .i64 v)∧V.cell? ⟨tb_,to_+p*3,none⟩=some (.int .i64 ti)∧V.cell? ⟨tb_,to_+p*3+1,none⟩=some (.int .i64 tO)∧V.cell? ⟨tb_,to_+p*3+2,none⟩=some (.slice A2 n2 c2) from
      fun V hV=>⟨by rw [(HXN6.out.below hV HXN6.out.lt).cell];rfl,by rw [(HX6.out.below hV HX6.out.lt).cell];rfl,by rw [(HX6.out.below hV HX6.out.lt).cell];rfl,by rw [(HX6.out.below hV HX6.out.lt).cell];rfl,by rw [(HX6.out.below hV HX6.out.lt).cell];rfl,Zc hV (Zn _) d0,Zc hV (Zn _) d1,Zc hV (Zn _) d2⟩)
     obtain ⟨x0,x1,x2,x3,x4⟩:=hX6.chn;clear hX6 x1 x2 x3 x4 d0 d1 d2 hr2
     go_wp2_with fail
     clear x0;refine wp_region_held_drew (S:=fun V=>Below w6.heap.size w6 V) (by kernel_rfl) (Zr _ _).drew (fun _=>?_);refine tz 0 79 ?_;refine tz 1 80 ?_;refine tz 2 81 ?_;refine tz 3 82 ?_;refine tz 4 83 ?_;refine tz 5 84 ?_;refine tz 6 85 ?_;refine tz 7 86 ?_;refine tz 8 87 ?_;refine tz 9 88 ?_;refine tz 11 90 ?_;refine tz 12 91 ?_;refine Zk 10 (fun K hK=>?_);go_simp;with_reducible refine (Qox A2 n2 c2 ⟨ti,tO,cost⟩ ci co w6.drew (HR2.out.below (Zr _ _).drew) HTAB.out (by simp only;omega) (by simp only;omega)).mono ?_
     rintro r w7 ⟨cx,hcx,rfl,hb7⟩;have hb67:Below w6.heap.size w6 w7:=(Zr _ _).drew.trans hb7;have HCX:=Zh hcx;clear hcx hb7;go_simp;refine hK.out _ _ hb67 (fun _=>?_);clear hK K;refine tz 13 92 ?_;refine Zd ?_;clear HSX;have HM7:=Zh (HM6.out.below hb67);have HX7:=Zh (HX6.out.below hb67 HX6.out.lt);have HXN7:=Zh (HXN6.out.below hb67 HXN6.out.lt);have hbw7:=Zb hbw6 hb67
     have hgd:(cost.getD (ci*tO+co) 0)=cx:=by
      have:=HCX.out
      try simp only [Yl] at this
      rw [Ya,this]
      rfl
     have HGD:=Zh hgd;clear HM6 HX6 HXN6 HN6 HR2 hb67 hbw6 hgd
     by_cases hwe:cx=v
     · have HM9:=Zh (show MkW w5 w.heap.size T cs bs (tb ls (Qdl N ls (l.take (j+1)))) w7 by
        have e:tb ls (Qdl N ls (l.take (j+1)))=tb ls (Qdl N ls (l.take j)):=Qdc (fun k r hr q _=>by
         rw [Qid HCJ.out,HMK.out]
         try simp only
         rw [HGD.out];simp [Chn.w,hwe])
        rw [e];exact HM7.out)
       subst hwe;clear HM7 HX7 HXN7 HMK
       go_wp2_with fail
       go_roundw
       case rel=>exact ⟨j+1,by omega,by go_num,HM9.out⟩
       case measure=>simp [intOf];omega
     have HWE:=Zh hwe;have y0:=HXN7.out.three.1
     go_wp2_with fail
     clear y0 hwe
     have HM8:=Zh (show MkW w5 w.heap.size T cs bs (tb ls (fun k q=>Qdl N ls (l.take j) k q || Qof N (p:Int) (ls.getD k []) 0 q)) w7 by
      have e:tb ls (fun k q=>Qdl N ls (l.take j) k q || Qof N (p:Int) (ls.getD k []) 0 q)=tb ls (Qdl N ls (l.take j)):=Qdc (fun k r hr q _=>by simp [Qof]);rw [e];exact HM7.out)
     have hwl7:wr.heap.size<w7.heap.size:=HX7.out.lt
     obtain ⟨b14,hb14⟩:∃ b,b=wr.heap.size:=⟨_,rfl⟩;rw [←hb14] at HX7 hwl7 ⊢;have HB14:=Zh (show b14 ∉ bs from fun hm=>by have:=HBS5.out _ hm;omega)
     clear HM7 hb14
     go_loopw [96] (fun q V=>∃ k:Nat,k≤N.vs.length∧q=.int .i64 k∧Blk V b14 83 #[.int .i64 2,.int .i64 p,.int .i64 ci,.int .i64 co,.int .i64 v]∧MkW w5 w.heap.size T cs bs (tb ls (fun k' q=>Qdl N ls (l.take j) k' q || Qof N (p:Int) (ls.getD k' []) k q)) V) (fun q _=>N.vs.length-(intOf q).toNat)
     case atStart=>exact ⟨0,Nat.zero_le _,rfl,HX7.out,HM8.out⟩
     case round =>
      clear HM8 HX7 HXN7 hbw7;obtain ⟨k,hk,rfl,hX,hm⟩:=hrel;have HM:=Zh hm;have HX:=Zh hX;clear hm;have hXl:=hX.lt
      by_cases hkn:k<N.vs.length
      rotate_left
      · obtain rfl:k=N.vs.length:=by omega
        have i9:¬((N.vs.length:Int)<(N.vs.length:Int)):=by omega
        have HM9:=Zh (show MkW w5 w.heap.size T cs bs (tb ls (Qdl N ls (l.take (j+1)))) wr by
         have e:tb ls (Qdl N ls (l.take (j+1)))=tb ls (fun k' q=>Qdl N ls (l.take j) k' q || Qof N (p:Int) (ls.getD k' []) N.vs.length q):=Qdc (fun k r hr q _=>by
          rw [Qid HCJ.out,HMK.out]
          try simp only
          rw [HGD.out];have hne:(cx != v)=true:=by simpa using HWE.out
          show (_ || (cx != v && _))=_
          rw [hne,Bool.true_and])
         rw [e];exact HM.out)
        clear HM HX hX HMK
        go_wp2_with fail
        go_roundw
        case rel=>exact ⟨j+1,by omega,by go_num,HM9.out⟩
        case measure=>simp [intOf];omega
      obtain ⟨ab,ao,vx,vy,vt,rfl,hvx,b1,b2,b3⟩:=(HN5.out.le HM.out.le).1.at_ hkn;have hbl:=Qae b1;simp only at hbl;have i9:(k:Int)<(N.vs.length:Int):=by omega
      have j1:(0:Int)≤(k:Int):=by omega
      by_cases hvt:vt=(p:Int)
      · subst hvt
        have HVX:=Zh hvx;clear hvx;obtain ⟨x0,x1,x2,x3,x4⟩:=hX.chn;clear hX x0 x2 x3 x4
        go_wp2_with fail
        (refine Qac ?_;intro w9 hw9)
        have hb9:Below wr.heap.size wr w9:=by rw [hw9];exact Qaf
        have HM9:=Zh (HM.out.below hb9);have HX9:=Zh (HX.out.below hb9 hXl);clear hw9 hb9 HM HX x1 b1 b2 b3;with_reducible refine (Qyt w9 w.heap.size T i cq N.vs.length k k Q cs bs ls _ HM9.out.tl (HQ5.out.le HM9.out.kept.msk) (by omega) (by omega) HP.out.lvl hkn hkn).mono ?_
        rintro r w10 ⟨rfl,hm10⟩
        have HM10:=Zh (show MkW w5 w.heap.size T cs bs (tb ls (fun k' q=>Qdl N ls (l.take j) k' q || Qof N (p:Int) (ls.getD k' []) (k+1) q)) w10 by
         have e:tb ls (fun k' q=>Qdl N ls (l.take j) k' q || Qof N (p:Int) (ls.getD k' []) (k+1) q)=tb ls (mrk ls (fun k' q=>Qdl N ls (l.take j) k' q || Qof N (p:Int) (ls.getD k' []) k q) k k):=Qdc (fun k' r hr q _=>by
          have hvd:(N.vs.getD k (0,0,0)).2.2=(p:Int):=by rw [Ya,HVX.out];rfl
          unfold mrk;rw [Qog,hvd,Bool.and_self,Bool.or_assoc];simp)
         rw [e];exact HM9.out.trans hm10)
        have HX10:=Zh (hm10.kept.blkM HX9.out HB14.out);clear hm10 HM9 HX9
        go_wp2_with fail
        go_roundw
        case rel=>exact ⟨k+1,by omega,by go_num,HX10.out,HM10.out⟩
        case measure=>simp [intOf];omega
      · have HM10:=Zh (show ∀ V,Below wr.heap.size wr V→MkW w5 w.heap.size T cs bs (tb ls (fun k' q=>Qdl N ls (l.take j) k' q || Qof N (p:Int) (ls.getD k' []) (k+1) q)) V from fun V hV=>by
         have e:tb ls (fun k' q=>Qdl N ls (l.take j) k' q || Qof N (p:Int) (ls.getD k' []) (k+1) q)=tb ls (fun k' q=>Qdl N ls (l.take j) k' q || Qof N (p:Int) (ls.getD k' []) k q):=Qdc (fun k' r hr q _=>by
          have hvd:(N.vs.getD k (0,0,0)).2.2=vt:=by rw [Ya,hvx];rfl
          have hne:(vt == (p:Int))=false:=by simpa using hvt
          try simp only
          rw [Qog,hvd,hne,Bool.false_and,Bool.or_false])
         rw [e];exact HM.out.below hV)
        have HVT:=Zh hvt;obtain ⟨x0,x1,x2,x3,x4⟩:=hX.chn;clear hX x0 x2 x3 x4 hvx HM
        go_wp2_with fail
        go_roundw
        case rel=>exact ⟨k+1,by omega,by go_num,HX.out.below Qaf hXl,HM10.out _ Qaf⟩
        case measure=>simp [intOf];omega
theorem Qok {w:World}{ops:Array Oper}{rest:List Oper}{o:Oper}{a:Act}{Q:Exit→Act→World→Prop}(hgd:o.guard=none)(d s:Operand)
 (ho:o.op=.call { callee:=.builtin .copy,args:=#[d,s],argTypes:=#[30,30] })
 (A dp:Option Addr) (n cp dN dC B off:Nat) (cl ces:List Int) (hd:a.eval d=.slice dp dN dC) (hs:a.eval s=.slice A n cp) (hn:n≤dN) (hdp:0<n→dp=some ⟨B,off,none⟩)
 (hB:Blk w B 2 (Qad cl).toArray) (hA:RdI w A n ces) (hfit:off+n≤cl.length)
 (h:∀ w',Blk w' B 2 (Qad (splice cl off ces)).toArray→Below B w w'→wpList prog ops Q rest (a.put o.dst (.int .i64 n)) w'):wpList prog ops Q (o::rest) a w:=by
 have hlen:ces.length=n:=hA.1
 refine wpList_copy_splice hgd d s 30 30 ho 2 underlying30 (by kernel_rfl) dp A dN dC n cp hd hs B off (Qad cl) 2 hB (Qad ces) (by rw [show (Qad ces).length=n by simp [Qad,hlen]];exact (Nat.min_eq_left hn).symm) (fun hp=>?_)
  (by simp [Qad,hlen];omega) (Qam _) B w (Zr _ _) (Zn _) (fun w' h1 h2=>?_)
 · have hn:0<n:=by simpa [Qad,hlen] using hp
   obtain ⟨z,hz⟩:∃ z,ces[0]?=some z:=⟨_,Zg (by omega)⟩;obtain ⟨b,o',e,_⟩:=hA.2 0 z hz;refine ⟨hdp hn,_,e,fun j v hv=>?_⟩
   have hj:∃ x,ces[j]?=some x∧v=.int .i64 x:=by
    simp [Qad] at hv;obtain ⟨x,e1,e2⟩:=hv;exact ⟨x,e1,e2.symm⟩
   obtain ⟨x,hx,rfl⟩:=hj;obtain ⟨b2,o2,e2,hc⟩:=hA.2 j x hx;rw [e] at e2
   cases e2
   unfold Addr.add
   by_cases h0:j=0
   · rw [if_pos h0]
     subst h0;exact hc
   · rw [if_neg h0]
     exact hc
 · have hw:=h w' (by rw [←Qhv];exact h1.out) h2
   rw [show goInt (Qad ces).length=Value.int .i64 (n:Int) by simp [Qad,hlen,goInt]]
   exact hw
def DoP (w:World)(F:Nat→Prop)(g:Nat)(N:Qai) (ls:List (List Int)) (l:List Chn) (r:Ending) (w':World):Prop :=
 ∃ (B:Nat) (cl:List Int) (F':Nat→Prop),r=.returned (.tuple #[.slice (some ⟨B,0,none⟩) (Qbr (gatesOf N.ar ls)) (Qbr (gatesOf N.ar ls)),.int .i64 ((Qlv (tb ls (Qdl N ls l)):Nat):Int),.nilIface])∧w.heap.size≤B ∧
  Blk w' B 2 (Qad cl).toArray∧Qfd (Qdq N l) ls cl∧(∀ b,F' b→(F b∨w.heap.size≤b)∧b<B)∧GrO w' F' g (Qdq N l)∧Qax (fun b=>¬F b) w w'∧w.heap.size≤w'.heap.size∧∀ Bd,Bd≤w.heap.size→(∀ b,F b→Bd≤b)→Below Bd w w'
theorem Qvd (L:List Int)(off:Nat):splice L off []=L:=by simp [splice]
set_option maxHeartbeats 1000000 in
theorem do_size (w:World)(g o:Nat)(ar:List Tri) (ls:List (List Int)) (A CA:Option Addr) (n cA NC cC:Nat) (ho:Qfm w o ar ls) (hne:NC≠Qbr (gatesOf ar ls)) :
 Calls prog 19 #[.pointer (some ⟨g,0,none⟩),.pointer (some ⟨o,0,none⟩),.slice CA NC cC,.slice A n cA] w fun r w'=>∃ v,r=.returned (.tuple #[.slice none 0 0,.int .i64 0,v])∧Qcm w' v [((⟨#[109,101,110,100]⟩:ByteArray),0)] 1∧Below w.heap.size w w':=by
 have HSZ:=Zh (Qfr o ar ls w ho);obtain ⟨S,hS⟩:∃ S,S=Qbr (gatesOf ar ls):=⟨_,rfl⟩;rw [←hS] at HSZ hne;have i1:¬((NC:Int)=(S:Int)):=by omega
 clear ho hS
 go_enter func19,ntmps19
 go_wp2_with fail
 with_reducible refine HSZ.out.mono ?_
 rintro e w' ⟨rfl,rfl⟩
 go_wp2_with fail
 refine bodyPost_ret (v:=.tuple #[.slice none 0 0,.int .i64 0,fltV w.heap.size 0]) (by simp [results,results19,go_sem]) rfl ?_;exact ⟨_,rfl,⟨_,0,Qrm 1,rfl,by simp,by simp,by simp,rfl⟩,Qaf⟩
set_option maxHeartbeats 1000000 in
theorem do_bad (w:World)(g o:Nat)(N:Qai) (ls:List (List Int)) (A CA:Option Addr) (n cA cC:Nat) (l:List Chn) (hg:Qgm w g N) (hok:Qav N) (ho:Qfm w o N.ar ls) (hl:Qig w A n l) (hn:n≤9223372036854775807) (ps:List (ByteArray×Int)) (c0:Int) (h:Ck N l ps c0) (hc0:c0≠0) :
 Calls prog 19 #[.pointer (some ⟨g,0,none⟩),.pointer (some ⟨o,0,none⟩),.slice CA (Qbr (gatesOf N.ar ls)) cC,.slice A n cA] w fun r w'=>∃ v,r=.returned (.tuple #[.slice none 0 0,.int .i64 0,v])∧Qcm w' v ps c0∧Below w.heap.size w w':=by
 have HSZ:=Zh (Qfr o N.ar ls w ho);have HTB:=Zh (Qsb w g o N A n cA l hg hok hl hn ps c0 h hc0);obtain ⟨S,hS⟩:∃ S,S=Qbr (gatesOf N.ar ls):=⟨_,rfl⟩;rw [←hS] at HSZ ⊢;clear ho hS hg hl h
 go_enter func19,ntmps19
 go_wp2_with fail
 with_reducible refine HSZ.out.mono ?_
 rintro e w' ⟨rfl,rfl⟩
 go_wp2_with fail
 with_reducible refine HTB.out.mono ?_
 rintro r w1 ⟨v,rfl,hch,hb1⟩;obtain ⟨tv,xv,rfl⟩:=Qcb hch;have HCH:=Zh hch;clear HTB hch
 go_wp2_with fail
 refine bodyPost_ret (v:=.tuple #[.slice none 0 0,.int .i64 0,.iface tv xv]) (by simp [results,results19,go_sem]) rfl ?_;exact ⟨_,rfl,HCH.out,hb1⟩
set_option maxRecDepth 20000 in
set_option maxHeartbeats 8000000 in
theorem do_ok (w:World)(g o:Nat)(F:Nat→Prop)(N:Qai) (ls:List (List Int)) (A CA:Option Addr) (n cA cC:Nat) (l:List Chn) (costs:List Int) (hg:GrO w F g N) (ho:Qfm (msk w (fun b=>¬F b)) o N.ar ls) (hP:Qbw N.vs.length ls) (hNC:Qbr (gatesOf N.ar ls)≤1000000000)
 (hc:RdI (msk w (fun b=>¬F b)) CA (Qbr (gatesOf N.ar ls)) costs) (hall:Qfd N ls costs) (hl:Qig (msk w (fun b=>¬F b)) A n l) (hb:Qcj N l) (hl256:l.length≤256) :
 Calls prog 19 #[.pointer (some ⟨g,0,none⟩),.pointer (some ⟨o,0,none⟩),.slice CA (Qbr (gatesOf N.ar ls)) cC,.slice A n cA] w (DoP w F g N ls l):=by
 have hok:=hg.ok;have hL6:ls.length≤6:=hP.l6;have hlv:=hok.lv;have hFw:∀ b,F b→b<w.heap.size:=fun b hb=>hg.lt hb
 have HSZ:=Zh (Qfr o N.ar ls w (ho.le (Qbh _ _)));have HTC:=Zh (Qub w g o N ls A n cA l hg.rd hok (ho.le (Qbh _ _)) hP (hl.le (Qbh _ _)) hb hl256);have HG:=Zh hg;have HO:=Zh ho;have HP:=Zh hP;have HC:=Zh hc;have HAL:=Zh hall;have HL:=Zh hl;have HB:=Zh hb;have HOK:=Zh hok;have HFW:=Zh hFw;obtain ⟨M,hM⟩:∃ M,M=Qdq N l:=⟨_,rfl⟩;have hsh:=Qdj hb;have hMok:=Qpo hok hb;rw [←hM] at hsh hMok;have HM:=Zh hM;have HKIN:=Zh hsh.kin;have HMOK:=Zh hMok;have HMP:=Zh (show Qbw M.vs.length ls by rw [hsh.kin.vs];exact hP)
 obtain ⟨NC,hNCe⟩:∃ NC,NC=Qbr (gatesOf N.ar ls):=⟨_,rfl⟩;have hNCM:NC=Qbr (gatesOf M.ar ls):=by rw [hNCe,hsh.kin.al.gatesOf]
 rw [←hNCe] at HSZ hNC HC ⊢;have HNC:=Zh hNCe;have HNM:=Zh hNCM;obtain ⟨L,hLe⟩:∃ L,L=ls.length:=⟨_,rfl⟩;rw [←hLe] at HTC hL6;have HLE:=Zh hLe;have hmk:=Qfa NC (by omega);clear hg ho hP hc hall hl hb hok hFw hM hsh hMok hNCe hNCM hLe
 go_enter func19,ntmps19
 go_wp2_with fail
 with_reducible refine HSZ.out.mono ?_
 rintro e w' ⟨rfl,rfl⟩
 go_wp2_with fail
 with_reducible refine HTC.out.mono ?_
 rintro r w1 ⟨T,cs,bs,rfl,hT,hb1⟩;have HT1:=Zh hT;have HB1:=Zh hb1;have HAP:=Zh (apply_ok w1 g N F A n cA l (HG.out.below hb1) (HL.out.le (Qax.below hb1).msk) HB.out hl256);clear HTC hT hb1 HSZ
 go_wp2_with fail
 with_reducible refine HAP.out.mono ?_
 rintro r w2 ⟨rfl,hav⟩;rw [←HM.out] at hav;have HAV:=Zh hav;have HT2:=Zh (HT1.out.kept hav.kept (fun b hB hF=>by have:=HFW.out b hF;omega));have HO2:=Zh (show Qfm w2 o M.ar ls from ((HO.out.le ((Qax.below HB1.out).msk)).le (hav.kept.msk.trans (Qbh _ _))).alike HKIN.out.al)
 have HC2:=Zh (show RdI w2 CA NC costs from (HC.out.le ((Qax.below HB1.out).msk)).le (hav.kept.msk.trans (Qbh _ _)))
 have HG2:=Zh (show Qgm w2 g M from by
  obtain ⟨F',_,h⟩:=hav.gr;exact h.rd)
 clear hav HAP HT1 HO HC HG;obtain ⟨w3,hw3⟩:∃ W,W=w2.alloc (.cells (Qbd (.int .i64 0) NC) 2):=⟨_,rfl⟩;have hb3:Below w2.heap.size w2 w3:=by rw [hw3];exact Qaf
 have hB3:Blk w3 w2.heap.size 2 (Qad (List.replicate NC 0)).toArray:=by rw [hw3,show (Qad (List.replicate NC 0)).toArray=Qbd (.int .i64 0) NC by simp [Qad,Qbd]];exact Blk.new _ _ _
 have HW3:=Zh hw3;have HC3:=Zh (HC2.out.below hb3);have hcl:costs.length=NC:=HC2.out.1;have HCL0:=Zh hcl;clear hw3 hcl
 go_wp2_with (rw [←HW3.out];with_reducible refine Qok rfl (.tmp 50) (.tmp 51) rfl CA (some ⟨w2.heap.size,0,none⟩) NC cC NC NC w2.heap.size 0 (List.replicate NC 0) costs rfl rfl (Zn _) (fun _=>rfl) hB3 HC3.out (by simp) ?_)
 clear hmk;have hcl:=HCL0.out;obtain ⟨B,hBe⟩:∃ B,B=w2.heap.size:=⟨_,rfl⟩;have HBE:=Zh hBe;rw [←hBe] at hB3 hb3 ⊢;clear hBe;intro w4 hB4 hb4
 have hB4:Blk w4 B 2 (Qad costs).toArray:=by
  have e:splice (List.replicate NC 0) 0 costs=costs:=by simp [splice,hcl]
  rw [e] at hB4;exact hB4
 have hb24:Below B w2 w4:=hb3.trans hb4;clear hB3 hb3 hb4 HC3
 go_wp2_with fail
 go_loopw [15,55] (fun z q V=>Below B w2 V∧∃ (i k:Nat) (cl:List Int),i≤L∧q=.int .i64 i∧z=.int .i64 k∧k≤5000*i∧k=Qlv ((tb ls (Qdl N ls l)).take i)∧Blk V B 2 (Qad cl).toArray∧cl.length=NC∧Qhi cl∧Qdp M ls i 0 cl∧Qhb N M ls i 0 cl) (fun _ q _=>L-(intOf q).toNat)
 case atStart=>exact ⟨hb24,0,0,costs,Nat.zero_le _,rfl,rfl,by omega,by simp [Qlv],hB4,hcl,HAL.out.cost HOK.out,Qdp.start _ _ _,Qhb.start HKIN.out HAL.out⟩
 case round =>
  clear hb24 hB4;obtain ⟨hbl,i,k,cl,hi,rfl,rfl,hk5,hk,hB,hcl2,hco,hdo,hre⟩:=hrel
  by_cases hlt:i<L
  rotate_left
  · obtain rfl:i=L:=by omega
    have i1:¬((i:Int)<(i:Int)):=by omega
    have HK:=Zh hk;have HB4:=Zh hB
    have HD:=Zh (show Qfd (Qdq N l) ls cl by
     rw [←HM.out];exact Qdp.all (by rw [←HLE.out];exact hdo) (by rw [hcl2];exact HNM.out))
    clear hk hB hdo hre hco
    go_wp2_with fail
    refine bodyPost_ret (v:=.tuple #[.slice (some ⟨B,0,none⟩) NC NC,.int .i64 k,.nilIface]) (by simp [results,results19,go_sem]) rfl ?_;obtain ⟨F',hF',hGr⟩:=HAV.out.gr;have hbl2:Below w2.heap.size w2 wr:=by rw [←HBE.out];exact hbl
    have hz1:=HB1.out.size;have hz2:=HAV.out.size;refine ⟨B,cl,F',?_,by rw [HBE.out];omega,HB4.out,HD.out,fun b hb=>⟨?_,?_⟩,by rw [←HM.out];exact hGr.below hbl2,?_,by have:=hbl2.size;omega,fun Bd h1 h2=>?_⟩
    · rw [←HNC.out,HK.out,Ye (by rw [Qfy,←HLE.out];exact Zn _)]
    · rcases hF' b hb with h|h
      · exact .inl h
      · exact .inr (by omega)
    · rw [HBE.out]
      exact hGr.lt hb
    · exact ((Qax.below HB1.out).trans HAV.out.kept hz1).trans (Qax.below hbl2) (by omega)
    · exact ((HB1.out.mono h1).trans (HAV.out.bel Bd (by omega) h2)).trans (hbl2.mono (by omega))
  obtain ⟨r0,hr0⟩:∃ r0,ls[i]?=some r0:=⟨_,Zg (by rw [←HLE.out];exact hlt)⟩;obtain ⟨Mi,hMi⟩:∃ Mi,Mi=(Qaj r0).toNat:=⟨_,rfl⟩;have hlo:=HMP.out.lvl r0 (Zm hr0)
  have hMb:Mi≤4096:=by
   have h2:=Qbq (l:=r0) (n:=(M.vs.length:Int)) (fun x hx=>hlo.hi x hx) (by omega);have h3:=HMOK.out.lv;omega
  have hTr:=HT2.out.below (show Below w2.heap.size w2 wr by rw [←HBE.out];exact hbl)
  obtain ⟨bi,hbi,hcs,hbk,hBb,hbT⟩:=hTr.get (Qei (f:=Qdl N ls l) hr0);have hcc:=hTr.cell hcs;rw [List.length_map,List.length_range,←hMi] at hcc
  have hbil:bi<w2.heap.size:=by
   obtain ⟨bi',hbi',_,hbk',_⟩:=HT2.out.get (Qei (f:=Qdl N ls l) hr0);rw [hbi] at hbi'
   cases hbi'
   exact hbk'.lt
  have hbk2:Blk w2 bi 4 (Qca ((List.range (Qaj r0).toNat).map (Qdl N ls l i))):=by
   obtain ⟨bi',hbi',_,hbk',_⟩:=HT2.out.get (Qei (f:=Qdl N ls l) hr0);rw [hbi] at hbi'
   cases hbi'
   exact hbk'
  have HBK:=Zh hbk2;have HR0:=Zh hr0;have HLO:=Zh hlo;have HK:=Zh hk;have HB4:=Zh hB;have HCL:=Zh hcl2;have HCO:=Zh hco;have HDO:=Zh hdo;have HRE:=Zh hre;have HMI:=Zh hMi;have i1:(i:Int)<(L:Int):=by omega
  have i2:(0:Int)≤(i:Int):=by omega
  clear hk hB hcl2 hco hdo hre hTr hbi hcs hbk hbk2 hr0 hlo hMi
  go_wp2_with fail
  go_loopw [15,62] (fun z q V=>Below B w2 V∧∃ (c k:Nat) (cl:List Int),c≤Mi∧q=.int .i64 c∧z=.int .i64 k∧k≤5000*i+c∧k=Qlv ((tb ls (Qdl N ls l)).take i)+Qtx (((List.range (Qaj r0).toNat).map (Qdl N ls l i)).take c)∧Blk V B 2 (Qad cl).toArray∧cl.length=NC∧Qhi cl∧Qdp M ls i c cl∧Qhb N M ls i c cl) (fun _ q _=>Mi-(intOf q).toNat)
  case atStart=>exact ⟨hbl,0,k,cl,Nat.zero_le _,rfl,rfl,by omega,by rw [HK.out];simp [Qtx],HB4.out,HCL.out,HCO.out,HDO.out,HRE.out⟩
  case round =>
   clear HK HB4 HCL HCO HDO HRE hcc hbl hk5;obtain ⟨hbl,c,k,cl,hc,rfl,rfl,hk5,hk,hB,hcl2,hco,hdo,hre⟩:=hrel;have HK:=Zh hk;have HB4:=Zh hB;have HCL:=Zh hcl2;have HCO:=Zh hco;have HDO:=Zh hdo;have HRE:=Zh hre;have hbl2:Below w2.heap.size w2 wr:=by rw [←HBE.out];exact hbl
   have HBL2:=Zh hbl2;clear hk hB hcl2 hco hdo hre
   by_cases hcM:c<Mi
   rotate_left
   · obtain rfl:c=Mi:=by omega
     have j1:¬((c:Int)<(c:Int)):=by omega
     have HH:=Zh (show k=Qlv ((tb ls (Qdl N ls l)).take (i+1)) by
      rw [Qqh (Qei HR0.out),HK.out,Ye (l:=(List.range (Qaj r0).toNat).map (Qdl N ls l i)) (by rw [List.length_map,List.length_range];have:=HMI.out;omega)])
     go_wp2_with fail
     go_roundw
     case rel=>exact ⟨hbl,i+1,k,cl,by omega,by go_num,rfl,by omega,HH.out,HB4.out,HCL.out,HCO.out,HDO.out.up HR0.out (by rw [Qaq,←HMI.out];exact Zn _),HRE.out.up⟩
     case measure=>simp [intOf];omega
   have hcM2:c<(Qaj r0).toNat:=by have:=HMI.out;omega
   obtain ⟨x,hx⟩:∃ x,(gateRow M.ar r0)[c]?=some x:=⟨_,Zg (by rw [Qaq];exact hcM2)⟩;have HX:=Zh hx;have htc:=(HBK.out.below hbl2 HBK.out.lt).cellB (Qwe (f:=Qdl N ls l) (i:=i) r0 hcM2);have HN:=Zh (Qph (Qwe (f:=Qdl N ls l) (i:=i) r0 hcM2));have j1:(c:Int)<(Mi:Int):=by omega
   have j2:(0:Int)≤(c:Int):=by omega
   obtain ⟨tt,htt⟩:∃ tt,tt=Qdl N ls l i c:=⟨_,rfl⟩;have HTT:=Zh htt;rw [←htt] at htc HN;clear htt hx
   cases tt with
   | false =>
    have HNT:=Zh (show ¬netT N M r0 c from fun hn=>by
     have h1:=HTT.out;unfold Qdl at h1;rw [Qes HR0.out,(Qzq HOK.out HB.out).2 (by rw [←HM.out];exact hn)] at h1
     cases h1)
    have HD2:=Zh (HDO.out.keep HOK.out HKIN.out HRE.out HR0.out (by rw [HLO.out.len,HKIN.out.vs]) HNT.out);have HH:=Zh (show k=Qlv ((tb ls (Qdl N ls l)).take i)+Qtx (((List.range (Qaj r0).toNat).map (Qdl N ls l i)).take (c+1)) by rw [HN.out,HK.out];simp)
    go_wp2_with fail
    go_roundw
    case rel=>exact ⟨hbl,c+1,k,cl,by omega,by go_num,rfl,by omega,HH.out,HB4.out,HCL.out,HCO.out,HD2.out,HRE.out.skip⟩
    case measure=>simp [intOf];omega
   | true =>
    have HH:=Zh (show k+1=Qlv ((tb ls (Qdl N ls l)).take i)+Qtx (((List.range (Qaj r0).toNat).map (Qdl N ls l i)).take (c+1)) by rw [HN.out,HK.out];simp;omega)
    obtain ⟨at2,hat⟩:∃ at2,at2=Qbr ((gatesOf M.ar ls).take i)+Qda ((gateRow M.ar r0).take c):=⟨_,rfl⟩
    have hfit:at2+szG x≤NC:=by
     have e1:=Qgb (gateRow M.ar r0) (c+1);have e2:=Qef (gatesOf M.ar ls) (i+1);rw [Qck (Qbj HR0.out),←HNM.out] at e2;rw [Qcl HX.out] at e1;omega
    have HAT:=Zh hat;have HON:=Zh (one_ok wr g o i c M ls r0 x (some ⟨B,0,none⟩) NC NC cl (HG2.out.below hbl2) HMOK.out (HO2.out.below hbl2) HMP.out HR0.out HX.out (HB4.out.rdI HCL.out) (by rw [←HNM.out];exact Zn _) hNC HCO.out (fun j hj=>HDO.out.low (by omega)));clear hat
    go_wp2_with fail
    with_reducible refine HON.out.mono ?_
    rintro e w5 ⟨A5,c5,ces,rfl,hA5,hent,hb5⟩;have HA5:=Zh hA5;have HEN:=Zh hent;have hbl5:Below B w2 w5:=hbl.trans (hb5.mono (by have:=HB4.out.lt;omega));have HB5:=Zh (HB4.out.below hb5 HB4.out.lt);have HBL5:=Zh (Zb hbl2 hb5);have hk9:IntKind.i64.wrap ((k:Int)+1)=(k:Int)+1:=IntWalk.i64_in _ (by omega);clear hA5 hent hb5 HON HB4
    by_cases hsz:szG x=0
    · have hces:ces=[]:=List.eq_nil_of_length_eq_zero (by rw [HA5.out.1,hsz])
      have HATN:=Zh (at0_no o i c M.ar ls r0 x w5 (HO2.out.below HBL5.out) HR0.out HX.out hsz (by rw [←HLE.out];omega))
      have HD2:=Zh (show Qdp M ls i (c+1) cl by
       have:=HDO.out.next HR0.out HX.out (ces:=ces) (by rw [hces,hsz];rfl) (by rw [HCL.out,←HAT.out];exact hfit) HEN.out;rw [hces,Qvd] at this;exact this)
      have HR2:=Zh (HRE.out.skip);clear hces hsz
      go_wp2_with fail
      with_reducible refine HATN.out.mono ?_
      rintro e w6 ⟨rfl,hb6⟩;have HB6:=Zh (HB5.out.below hb6 HB5.out.lt);have hbl6:Below B w2 w6:=hbl5.trans (hb6.mono (by have:=HB5.out.lt;omega));clear hb6 HATN HB5
      go_wp2_with fail
      go_roundw
      case rel=>exact ⟨hbl6,c+1,k+1,cl,by omega,by go_num,by go_num,by omega,HH.out,HB6.out,HCL.out,HCO.out,HD2.out,HR2.out⟩
      case measure=>simp [intOf];omega
    have HATN:=Zh (at0_ok o i c M.ar ls r0 x w5 (HO2.out.below HBL5.out) HR0.out HX.out hsz (by rw [←HLE.out];omega) (by rw [←HNM.out];omega));rw [←HAT.out] at HATN;have HSX2:=Zh (HRE.out.next HR0.out HX.out HA5.out.1 (by rw [HCL.out,←HAT.out];exact hfit));have HD2:=Zh (HDO.out.next HR0.out HX.out HA5.out.1 (by rw [HCL.out,←HAT.out];exact hfit) HEN.out);rw [←HAT.out] at HSX2 HD2;have HCO2:=Zh (HCO.out.next HMOK.out (off:=at2) HX.out HA5.out.1 HEN.out);have hsl:=fun W=>Qpl (P:=prog) 30 2 1 underlying30 (by kernel_rfl) (by kernel_rfl) (some ⟨B,0,none⟩) NC NC at2 (NC-at2) (by omega) rfl .i64 (at2:Int) rfl W
    have j3:(0:Int)≤(at2:Int):=by omega
    have j4:(at2:Int)≤(NC:Int):=by omega
    go_wp2_with fail
    with_reducible refine HATN.out.mono ?_
    rintro e w6 ⟨rfl,hb6⟩;have HB6:=Zh (HB5.out.below hb6 HB5.out.lt);have HA6:=Zh (HA5.out.below hb6);have hbl6:Below B w2 w6:=hbl5.trans (hb6.mono (by have:=HB5.out.lt;omega));clear hb6 HATN HB5
    go_wp2_with (with_reducible refine Qok rfl (.tmp 93) (.tmp 94) rfl A5 (cutA 1 (some ⟨B,0,none⟩) at2 NC) (szG x) c5 (NC-at2) (NC-at2) B at2 cl ces rfl rfl (by omega) (fun _=>by unfold cutA;rw [if_neg (by omega)];by_cases h0:at2=0 <;> simp [Addr.add,h0]) HB6.out HA6.out (by rw [HCL.out];exact hfit) ?_)
    intro w7 hB7 hb7;have HB7:=Zh hB7;have hbl7:Below B w2 w7:=hbl6.trans hb7;clear hB7 hb7 hsl
    go_wp2_with fail
    go_roundw
    case rel=>exact ⟨hbl7,c+1,k+1,splice cl at2 ces,by omega,by go_num,by go_num,by omega,HH.out,HB7.out,by rw [length_splice _ _ _ (by rw [HA5.out.1,HCL.out];exact hfit)];exact HCL.out,HCO2.out,HD2.out,HSX2.out⟩
    case measure=>simp [intOf];omega
end Go.Proofs.YthoagdpakddbdaaGreatDoor
