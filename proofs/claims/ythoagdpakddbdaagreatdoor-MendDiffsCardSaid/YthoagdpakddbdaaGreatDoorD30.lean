/- Parts of the proof: MdF, MdA, MdY, Sbo, RfC. -/
import Derived.Test.YthoagdpakddbdaaGreatDoorD1
import Derived.Test.YthoagdpakddbdaaGreatDoorD9
import Derived.Test.YthoagdpakddbdaaGreatDoorD16
import Derived.Test.YthoagdpakddbdaaGreatDoorD17
import Derived.Test.YthoagdpakddbdaaGreatDoorD21
import Derived.Test.YthoagdpakddbdaaGreatDoorD25
import Derived.Test.YthoagdpakddbdaaGreatDoorD26
import Derived.Test.YthoagdpakddbdaaGreatDoorD28
import Derived.Test.YthoagdpakddbdaaGreatDoorD29
namespace Go.Proofs.YthoagdpakddbdaaGreatDoor
open Go.RowKit Go.Proofs.Tryz
attribute [local go_sem ↓] Go.wp_at_zero Go.wp_at_succ
theorem infoCh:(Tryz.prog.info? 83).map (fun i=>(i.zero,i.size,i.bytes))=some (some (.agg #[.int .i64 0,.int .i64 0,.int .i64 0,.int .i64 0,.int .i64 0]),5,40):=by kernel_rfl
set_option maxHeartbeats 2000000 in
theorem Qhv (A:Option Addr)(n c:Nat)(l:List Chn)(w:World)(h:Qha w A n l)(hn:n≤1000000) :
 Calls prog 20 #[.slice A n c] w fun r w'=>∃ A' c',r=.returned (.slice A' n c')∧Own w' w.heap.size 83 5 A' n c' (Qcb l)∧Below w.heap.size w w':=by
 have HL:=Zh h;have HN:=Zh h.1;clear h
 go_enter func20,ntmps20
 go_wp2_with fail
 go_loopw [3,4] (fun z q V=>Below w.heap.size w V∧∃ (i:Nat) (A':Option Addr) (cp:Nat),i≤n∧q=.int .i64 i∧z=.slice A' i cp∧Own V w.heap.size 83 5 A' i cp (Qcb (l.take i))) (fun _ q _=>n-(intOf q).toNat)
 case atStart=>exact ⟨Zr _ _,0,none,0,Nat.zero_le _,rfl,rfl,Own.nil _ _ _ _⟩
 case round =>
  obtain ⟨hbl,i,A',cp,hi,rfl,rfl,hown⟩:=hrel;have HO:=Zh hown;have HBL:=Zh hbl;clear hown
  by_cases hlt:i<n
  rotate_left
  · obtain rfl:i=n:=by omega
    have i3:¬((i:Int)<(i:Int)):=by omega
    go_wp2_with fail
    go_ret
    refine ⟨A',cp,rfl,?_,hbl⟩;have:=HO.out;rw [List.take_of_length_le (by rw [HN.out];exact Zn _)] at this;exact this
  obtain ⟨lb,lo,x,y,z,u,v,rfl,hc,c1,c2,c3,c4,c5⟩:=HL.out.at_ hlt;have HQ:=Zh (Qqi hc);simp only at HQ
  have HSX:=Zh (show ∀ V,Below w.heap.size w V→V.cell? ⟨lb,lo+i*5,none⟩=some (.int .i64 x)∧V.cell? ⟨lb,lo+i*5+1,none⟩=some (.int .i64 y)∧V.cell? ⟨lb,lo+i*5+2,none⟩=some (.int .i64 z)∧V.cell? ⟨lb,lo+i*5+3,none⟩=some (.int .i64 u)∧V.cell? ⟨lb,lo+i*5+4,none⟩=some (.int .i64 v) from
   fun V hV=>⟨Zc hV (Zn _) c1,Zc hV (Zn _) c2,Zc hV (Zn _) c3,Zc hV (Zn _) c4,Zc hV (Zn _) c5⟩)
  have i1:(i:Int)<(n:Int):=by omega
  have i2:(0:Int)≤(i:Int):=by omega
  clear hc c1 c2 c3 c4 c5 hbl
  go_wp2_with fail
  refine wp_region_held_drew (S:=fun V=>Below w.heap.size w V) (by kernel_rfl) HBL.out.drew (fun _=>?_);refine tz 0 11 ?_;refine tz 1 12 ?_;refine tz 2 13 ?_;refine tz 3 14 ?_;refine tz 4 15 ?_;refine tz 5 16 ?_;refine tz 6 17 ?_;refine tz 7 18 ?_;refine tz 8 19 ?_;refine tz 9 20 ?_;refine tz 10 21 ?_;refine tz 11 22 ?_;refine tz 12 23 ?_;refine tz 13 24 ?_;refine tz 14 25 ?_;refine tz 15 26 ?_;refine tz 16 27 ?_;refine tz 17 28 ?_;refine tz 18 29 ?_;refine tz 19 30 ?_;refine tz 20 31 ?_;refine tz 21 32 ?_;refine tz 22 33 ?_;refine tz 23 34 ?_;refine tz 24 35 ?_;refine tz 25 36 ?_;refine tz 26 37 ?_;refine Zk 27 (fun K hK=>?_);go_simp;refine hK.out _ _ (Zb HBL.out Qae) (fun _=>?_);clear hK K;obtain ⟨W5,hW5⟩:∃ W5,W5=(wr.alloc (.cells #[.int .i64 x,.int .i64 y,.int .i64 z,.int .i64 u,.int .i64 v] 83)).drew:=⟨_,rfl⟩;rw [←hW5];have hb5:Below wr.heap.size wr W5:=by rw [hW5];exact Qae
  have hrd:Rds W5 5 (some ⟨wr.heap.size,0,none⟩) 1 [.int .i64 x,.int .i64 y,.int .i64 z,.int .i64 u,.int .i64 v]:=by rw [hW5];exact (Blk.new wr 83 #[.int .i64 x,.int .i64 y,.int .i64 z,.int .i64 u,.int .i64 v]).drew.rds rfl
  have hone:∀ e∈[Value.int .i64 x,.int .i64 y,.int .i64 z,.int .i64 u,.int .i64 v],e.oneCell'=true:=Qtl [(x,y,z,u,v)];have hown:=HO.out.below hb5;have HB5:=Zh (Zb HBL.out hb5);have hsz:w.heap.size≤W5.heap.size:=HB5.out.size;clear hW5 hb5;refine Zk 28 (fun K hK=>?_);with_reducible refine Qal (some 39) rfl rfl (.tmp 11) (.tmp 38) 60 rfl 83 _ 5 40 infoCh underlying60 rfl (by omega) rfl rfl hown hrd hone (by omega) (by omega) hsz ?_
  intro A3 c3 w8 ho8 hg8 hat8;have hb8:=Bel.grownOwn HB5.out hg8 hown hsz;refine hK.out _ _ hb8 (fun _=>?_);clear hK K;simp only [Act.put,List.setIfInBounds_toArray,List.set_cons_zero,List.set_cons_succ];refine tz 29 3 ?_;refine Zd ?_;have HB8:=Zh hb8;have HO8:=Zh (show Own w8 w.heap.size 83 5 A3 (i+1) c3 (Qcb (l.take (i+1))) by rw [HQ.out];exact ho8)
  clear hown hrd hsz ho8 hg8 hat8 hb8 HSX
  go_wp2_with fail
  go_roundw
  case rel=>exact ⟨HB8.out,i+1,A3,c3,by omega,by go_num,rfl,HO8.out⟩
  case measure=>simp [intOf];omega
theorem Own.rdCm {W:World}{B n c:Nat}{A:Option Addr}{l:List Chn}{G:Nat→Prop} (h:Own W B 83 5 A n c (Qcb l)) (hG:∀ b,B≤b→b<W.heap.size→G b):Qha (msk W G) A n l :=
 ⟨h.rds.rdC.1,fun i x hx=>by
  obtain ⟨b,o,e,h1,h2,h3,h4,h5⟩:=h.rds.rdC.2 i x hx;have hb:=h.lt b (by rw [e];rfl);exact ⟨b,o,e,Qar.2 ⟨hG b hb.1 hb.2,h1⟩,Qar.2 ⟨hG b hb.1 hb.2,h2⟩,Qar.2 ⟨hG b hb.1 hb.2,h3⟩,Qar.2 ⟨hG b hb.1 hb.2,h4⟩,Qar.2 ⟨hG b hb.1 hb.2,h5⟩⟩⟩
structure GO (W:World) (F G:Nat→Prop) (g o:Nat) (N:Qaj) (ls:List (List Int)):Prop where
 gr:GrO W F g N
 ov:Qez (msk W G) o N.ar ls
 dis:∀ b,G b→¬F b
 lt:∀ b,G b→b<W.heap.size
theorem GO.below {W W':World}{F G:Nat→Prop}{g o:Nat}{N:Qaj} {ls:List (List Int)} (h:GO W F G g o N ls) (hb:Below W.heap.size W W'):GO W' F G g o N ls :=
 ⟨h.gr.below hb,h.ov.le (Qaz.below hb).msk,h.dis,fun b hb'=>Nat.lt_of_lt_of_le (h.lt b hb') hb.size⟩
theorem GO.ovF {W:World}{F G:Nat→Prop}{g o:Nat}{N:Qaj} {ls:List (List Int)} (h:GO W F G g o N ls):Qez (msk W (fun b=>¬F b)) o N.ar ls:=h.ov.le (Qbd (fun b hb=>h.dis b hb))
theorem GO.ovR {W:World}{F G:Nat→Prop}{g o:Nat}{N:Qaj} {ls:List (List Int)} (h:GO W F G g o N ls):Qez W o N.ar ls:=h.ov.le (Qbn _ _)
def Qkx (M:Nat)(f:Nat→Bool)(c:Nat):List Bool:=(List.range M).map (fun q=>decide (q<c) && f q)
theorem Qia (M:Nat)(f:Nat→Bool)(c:Nat):(Qkx M f c).length=M:=by simp [Qkx]
theorem Qjg {M q:Nat}(f:Nat→Bool)(c:Nat)(hq:q<M):(Qkx M f c)[q]?=some (decide (q<c) && f q):=by
 unfold Qkx;rw [List.getElem?_map,List.getElem?_range hq]
 rfl
theorem Qxd (M:Nat)(f:Nat→Bool):Qkx M f 0=List.replicate M false:=by
 apply List.ext_getElem?
 intro q
 by_cases hq:q<M
 · rw [Qjg f 0 hq,List.getElem?_replicate,if_pos hq]
   simp
 · rw [List.getElem?_eq_none (by rw [Qia];omega),List.getElem?_eq_none (by simp;omega)]
theorem fstR_all (M:Nat)(f:Nat→Bool):Qkx M f M=(List.range M).map f:=by
 unfold Qkx;refine List.map_congr_left (fun q hq=>?_);rw [decide_eq_true (List.mem_range.1 hq),Bool.true_and]
theorem Qvj {M:Nat}{f:Nat→Bool}{c:Nat}(h:f c=false):Qkx M f (c+1)=Qkx M f c:=by
 unfold Qkx;refine List.map_congr_left (fun q hq=>?_)
 by_cases e:q=c
 · subst e
   rw [h,Bool.and_false,Bool.and_false]
 · congr 1
   exact decide_eq_decide.2 (by omega)
theorem fstR_yes {M:Nat}{f:Nat→Bool}{c:Nat}(hc:c<M)(h:f c=true):Qkx M f (c+1)=(Qkx M f c).set c true:=by
 apply List.ext_getElem?
 intro q
 by_cases hq:q<M
 · rw [Qjg f _ hq]
   by_cases e:c=q
   · subst e
     rw [List.getElem?_set_self (by rw [Qia];exact hc),h];simp
   · rw [List.getElem?_set_ne e,Qjg f _ hq]
     congr 2
     exact decide_eq_decide.2 (by omega)
 · rw [List.getElem?_eq_none (by rw [Qia];omega),List.getElem?_eq_none (by rw [List.length_set,Qia];omega)]
theorem Qry {α:Type}(l:List α)(r s:α){i:Nat}(h:l.length=i):(l ++[r])[i]?=some r∧(l ++[r]).set i s=l ++[s]:=by
 subst h
 constructor
 · rw [List.getElem?_append_right (Zn _),Nat.sub_self]
   rfl
 · rw [List.set_append_right _ _ (Zn _),Nat.sub_self]
   rfl
set_option maxHeartbeats 1000000 in
theorem diff_a (w:World)(o:Nat)(ar:List Tri) (ls:List (List Int)) (A B:Option Addr) (NA cA NB cB:Nat) (ho:Qez w o ar ls) (hne:NA≠Qbf (gatesOf ar ls)) :
 Calls prog 12 #[.pointer (some ⟨o,0,none⟩),.slice A NA cA,.slice B NB cB] w fun r w'=>∃ v,r=.returned (.tuple #[.slice none 0 0,v])∧Qcp w' v [((⟨#[109,101,110,100]⟩:ByteArray),0)] 1∧Below w.heap.size w w':=by
 have HSZ:=Zh (Qdu o ar ls w ho);obtain ⟨S,hS⟩:∃ S,S=Qbf (gatesOf ar ls):=⟨_,rfl⟩;rw [←hS] at HSZ hne;have i1:¬((NA:Int)=(S:Int)):=by omega
 clear ho hS
 go_enter func12,ntmps12
 go_wp2_with fail
 with_reducible refine HSZ.out.mono ?_
 rintro e w' ⟨rfl,rfl⟩
 go_wp2_with fail
 refine bodyPost_ret (v:=.tuple #[.slice none 0 0,fltV w.heap.size 0]) (by simp [results,results12,go_sem]) rfl ?_;exact ⟨_,rfl,⟨_,0,Qpj 1,rfl,by simp,by simp,by simp,rfl⟩,Qae⟩
set_option maxHeartbeats 1000000 in
theorem diff_b (w:World)(o:Nat)(ar:List Tri) (ls:List (List Int)) (A B:Option Addr) (NA cA NB cB:Nat) (ho:Qez w o ar ls) (hA:NA=Qbf (gatesOf ar ls)) (hne:NB≠Qbf (gatesOf ar ls)) :
 Calls prog 12 #[.pointer (some ⟨o,0,none⟩),.slice A NA cA,.slice B NB cB] w fun r w'=>∃ v,r=.returned (.tuple #[.slice none 0 0,v])∧Qcp w' v [((⟨#[109,101,110,100]⟩:ByteArray),1)] 1∧Below w.heap.size w w':=by
 have HSZ:=Zh (Qdu o ar ls w ho);rw [←hA] at HSZ hne;have i1:¬((NB:Int)=(NA:Int)):=by omega
 clear ho hA
 go_enter func12,ntmps12
 go_wp2_with fail
 with_reducible refine HSZ.out.mono ?_
 rintro e w' ⟨rfl,rfl⟩
 go_wp2_with fail
 refine bodyPost_ret (v:=.tuple #[.slice none 0 0,fltV w.heap.size 0]) (by simp [results,results12,go_sem]) rfl ?_;exact ⟨_,rfl,⟨_,0,Qpj 1,rfl,by simp,by simp,by simp,rfl⟩,Qae⟩
set_option maxRecDepth 20000 in
set_option maxHeartbeats 8000000 in
theorem Qpz (w:World)(o:Nat)(ar:List Tri) (ls:List (List Int)) (A B:Option Addr) (NC cA cB:Nat) (a b:List Int) (ho:Qez w o ar ls) (hA:RdI w A NC a) (hB:RdI w B NC b) (hNCe:NC=Qbf (gatesOf ar ls)) (hNC:NC≤1000000000) (hL6:ls.length≤6) (hlv:∀ l∈ls,(Qai l).toNat≤4096) (har:ar.length≤1000000) :
 Calls prog 12 #[.pointer (some ⟨o,0,none⟩),.slice A NC cA,.slice B NC cB] w (TlP w ls.length (tb ls (Qpu ar ls a b))):=by
 have HSZ:=Zh (Qdu o ar ls w ho);have HLV:=Zh (Qgo o ar ls w ho);have HO:=Zh ho;have HA:=Zh hA;have HB:=Zh hB;have HMO:=Zh hlv;have HNC:=Zh hNCe;rw [←hNCe] at HSZ;obtain ⟨L,hLe⟩:∃ L,L=ls.length:=⟨_,rfl⟩;rw [←hLe] at HLV hL6 ⊢;have HLE:=Zh hLe;obtain ⟨F,hF⟩:∃ F,F=Qpu ar ls a b:=⟨_,rfl⟩;have HF:=Zh hF;rw [←hF];have hmkQ:=Qoa L (by omega);clear ho hA hB hlv hNCe hLe hF
 go_enter func12,ntmps12
 go_wp2_with fail
 with_reducible refine HSZ.out.mono ?_
 rintro e w' ⟨rfl,rfl⟩
 go_wp2_with fail
 with_reducible refine HLV.out.mono ?_
 rintro e w' ⟨rfl,rfl⟩
 go_wp2_with fail
 (refine Qag ?_;intro w2 hw2)
 have hb2:Below w.heap.size w w2:=by rw [hw2];exact Qae
 have hT2:TlW w2 w.heap.size w.heap.size (List.replicate L (.slice none 0 0)) [] []:=by
  rw [hw2];refine TlW.start ?_ (Zn _);have e:Qbc (.slice none 0 0) L=(List.replicate L (Value.slice none 0 0)).toArray:=by simp [Qbc]
  rw [e];exact Blk.new _ _ _
 obtain ⟨T,hTe⟩:∃ T,T=w.heap.size:=⟨_,rfl⟩;have HTE:=Zh hTe;rw [←hTe] at hT2 hb2 ⊢;clear hw2 hmkQ HLV HSZ hTe
 go_loopw [38] (fun q V=>Below T w V∧∃ (i:Nat) (cs:List Value) (bs:List Nat),i≤L∧q=.int .i64 i∧cs.length=L∧TlW V T T cs bs ((tb ls F).take i)) (fun q _=>L-(intOf q).toNat)
 case atStart=>exact ⟨hb2,0,List.replicate L (.slice none 0 0),[],Nat.zero_le _,rfl,by simp,by simpa using hT2⟩
 case round =>
  clear hb2 hT2;obtain ⟨hbl,i,cs,bs,hi,rfl,hcl,hT⟩:=hrel
  by_cases hlt:i<L
  rotate_left
  · obtain rfl:i=L:=by omega
    have i3:¬((i:Int)<(i:Int)):=by omega
    rw [List.take_of_length_le (by rw [Qcs,←HLE.out];exact Zn _)] at hT;have HT:=Zh hT;clear hT hcl
    go_wp2_with fail
    refine bodyPost_ret (v:=.tuple #[.slice (some ⟨T,0,none⟩) i i,.nilIface]) (by simp [results,results12,go_sem]) rfl ?_;exact ⟨T,cs,bs,rfl,by rw [←HTE.out];exact HT.out,by rw [←HTE.out];exact hbl⟩
  have hbw:Below w.heap.size w wr:=by rw [←HTE.out];exact hbl
  obtain ⟨r0,hr0⟩:∃ r0,ls[i]?=some r0:=⟨_,Zg (by rw [←HLE.out];exact hlt)⟩;have hM4:=HMO.out r0 (Zm hr0);obtain ⟨M,hM⟩:∃ M,M=(Qai r0).toNat:=⟨_,rfl⟩;rw [←hM] at hM4;have HR0:=Zh hr0;have HMM:=Zh hM;have HCE:=Zh (Qfo o i M ar ls r0 wr (HO.out.below hbw) hr0 (by rw [←HLE.out];omega) hM.symm);have hmk:=Qhj M (by omega);have hrl:((tb ls F).take i).length=i:=by rw [List.length_take,Qcs,←HLE.out];omega
  have HRL:=Zh hrl;have hpush:=hT.push (M:=M) (by rw [hrl,hcl];exact hlt);rw [hrl,←Qxd M (F i)] at hpush;have HPU:=Zh hpush;have hld:=hpush.cell (i:=i) (List.getElem?_set_self (by rw [hcl];exact hlt));have HCL:=Zh hcl;have hTl:=hT.box.lt;have hTf:=hT.box.frozen i;have hcc:wr.cell? ⟨T,i,none⟩=cs[i]?:=by rw [hT.box.cell];simp
  obtain ⟨u0,hu0⟩:∃ u,cs[i]?=some u:=⟨_,Zg (by rw [hcl];exact hlt)⟩;rw [hu0] at hcc
  have HTN:=Zh (show (tb ls F).take (i+1)=(tb ls F).take i ++[Qkx M (F i) M] by
   have h1:=Qcw (f:=F) hr0;rw [List.take_succ_eq_append_getElem (Zs h1).1,(Zs h1).2,fstR_all,hM])
  have i3:(i:Int)<(L:Int):=by omega
  have i4:(0:Int)≤(i:Int):=by omega
  clear hr0 hM hpush hT hu0 hcl hrl
  go_wp2_with fail
  with_reducible refine HCE.out.mono ?_
  rintro e w' ⟨rfl,rfl⟩
  go_wp2_with fail
  (refine Qag ?_;intro w2 hw2)
  have hT2:TlW w2 T T (cs.set i (.slice (some ⟨wr.heap.size,0,none⟩) M M)) (bs ++[wr.heap.size]) ((tb ls F).take i ++[Qkx M (F i) 0]):=by rw [hw2];exact HPU.out
  have hb2:Below T w w2:=by
   rw [hw2];exact (hbl.setCell (Zn T) _).alloc (by simp only [World.size_setCell];omega) _
  have HC2:=Zh (show (cs.set i (.slice (some ⟨wr.heap.size,0,none⟩) M M)).length=L by rw [List.length_set];exact HCL.out)
  have HD2:=Zh (show (cs.set i (.slice (some ⟨wr.heap.size,0,none⟩) M M))[i]?=some (.slice (some ⟨wr.heap.size,0,none⟩) M M) from List.getElem?_set_self (by rw [HCL.out];exact hlt))
  have HE2:=Zh (show (bs ++[wr.heap.size])[i]?=some wr.heap.size by
   have h1:=hT2.n;rw [List.length_append,List.length_append,HRL.out] at h1;simp only [List.length_cons,List.length_nil] at h1;exact (Qry bs wr.heap.size 0 (by omega)).1)
  generalize cs.set i (.slice (some ⟨wr.heap.size,0,none⟩) M M)=cs2 at *;generalize bs ++[wr.heap.size]=bs2 at *;generalize wr.heap.size=rb at *;clear hw2 hmk HPU HCE hld hTl hTf hcc HCL hbl hbw
  go_loopw [54] (fun q V=>Below T w V∧∃ c:Nat,c≤M∧q=.int .i64 c∧TlW V T T cs2 bs2 ((tb ls F).take i ++[Qkx M (F i) c])) (fun q _=>M-(intOf q).toNat)
  case atStart=>exact ⟨hb2,0,Nat.zero_le _,rfl,hT2⟩
  case round =>
   clear hb2 hT2;obtain ⟨hbl,c,hc,rfl,hT⟩:=hrel
   by_cases hcM:c<M
   rotate_left
   · obtain rfl:c=M:=by omega
     have j1:¬((c:Int)<(c:Int)):=by omega
     rw [←HTN.out] at hT;have HT:=Zh hT;clear hT
     go_wp2_with fail
     go_roundw
     case rel=>exact ⟨hbl,i+1,cs2,bs2,by omega,by go_num,HC2.out,HT.out⟩
     case measure=>simp [intOf];omega
   have hbw:Below w.heap.size w wr:=by rw [←HTE.out];exact hbl
   have HT:=Zh hT;have HBW:=Zh hbw;obtain ⟨x,hx⟩:∃ x,(gateRow ar r0)[c]?=some x:=⟨_,Zg (by rw [Qan,←HMM.out];exact hcM)⟩;have HX:=Zh hx;have HSZ:=Zh (show Qff ar ls i c=szG x by unfold Qff;rw [Qcx HR0.out,List.getD_eq_getElem?_getD,hx];rfl)
   obtain ⟨at2,hat⟩:∃ at2,at2=Qca ar ls i c:=⟨_,rfl⟩;have HAT:=Zh hat
   have hfit:at2+szG x≤NC:=by
    have e1:=Qeh (gateRow ar r0) (c+1);have e2:=Qdi (gatesOf ar ls) (i+1);rw [Qbr (Qba HR0.out),←HNC.out] at e2;rw [Qbl hx] at e1;rw [hat];unfold Qca;rw [Qcx HR0.out];omega
   have HFI:=Zh (show F i c=Quz a b at2 (szG x) by rw [HF.out];unfold Qpu;rw [HSZ.out,←hat])
   have j1:(c:Int)<(M:Int):=by omega
   have j2:(0:Int)≤(c:Int):=by omega
   clear hT hx hat
   by_cases hs0:szG x=0
   · have HNO:=Zh (show TlW wr T T cs2 bs2 ((tb ls F).take i ++[Qkx M (F i) (c+1)]) by
      rw [Qvj (by rw [HFI.out,hs0];rfl)];exact HT.out)
     have HATN:=Zh (at0_no o i c ar ls r0 x wr (HO.out.below hbw) HR0.out HX.out hs0 (by rw [←HLE.out];omega));clear hbw hs0 HT
     go_wp2_with fail
     with_reducible refine HATN.out.mono ?_
     rintro e w3 ⟨rfl,hb3⟩;have HT3:=Zh (HNO.out.below hb3);have hbl3:Below T w w3:=hbl.trans (hb3.mono (by have:=HNO.out.box.lt;omega));clear hb3 HATN HNO
     go_wp2_with fail
     go_roundw
     case rel=>exact ⟨hbl3,c+1,by omega,by go_num,HT3.out⟩
     case measure=>simp [intOf];omega
   have HATN:=Zh (at0_ok o i c ar ls r0 x wr (HO.out.below hbw) HR0.out HX.out hs0 (by rw [←HLE.out];omega) (by rw [←HNC.out];omega))
   have he0:Qbf ((gatesOf ar ls).take i)+Qda ((gateRow ar r0).take c)=at2:=by
    rw [HAT.out];unfold Qca;rw [Qcx HR0.out]
   rw [he0] at HATN;obtain ⟨SZ,hSZ⟩:∃ SZ,SZ=szG x:=⟨_,rfl⟩;have HSE:=Zh hSZ;rw [←hSZ] at hfit hs0 HFI;have j3:(0:Int)≤(at2:Int):=by omega
   clear he0 hSZ hbw
   go_wp2_with fail
   with_reducible refine HATN.out.mono ?_
   rintro e w3 ⟨rfl,hb3⟩;have HT3:=Zh (HT.out.below hb3);have hbl3:Below T w w3:=hbl.trans (hb3.mono (by have:=HT.out.box.lt;omega));have HBW3:=Zh (Zb HBW.out hb3);have HGT:=Zh (oGate_ok o i c ar ls r0 x w3 (HO.out.below HBW3.out) HR0.out (by rw [←HLE.out];omega) HX.out har);clear hb3 HATN HT hbl
   go_wp2_with fail
   with_reducible refine HGT.out.mono ?_
   rintro e w4 ⟨A1,n1,c1,A2,n2,c2,rfl,hr1,hr2,hb4⟩
   have hmul:(n1:Int)*(n2:Int)=(SZ:Int):=by
    rw [HSE.out];unfold szG;rw [hr1.1,hr2.1];simp
   have HT4:=Zh (HT3.out.below hb4);have hbl4:Below T w w4:=hbl3.trans (hb4.mono (by have:=HT3.out.box.lt;omega));have hwz:IntKind.i64.wrap (SZ:Int)=(SZ:Int):=IntWalk.i64_in _ (by omega);clear hb4 HGT HT3 hbl3 hr1 hr2
   go_wp2_with fail
   (refine Qag ?_;intro w5 hw5)
   have hb5:Below w4.heap.size w4 w5:=by rw [hw5];exact Qae
   have HT5:=Zh (HT4.out.below hb5);have hbl5:Below T w w5:=hbl4.trans (hb5.mono (by have:=HT4.out.box.lt;omega));clear hw5 hb5 HT4 hbl4
   go_loopw [76] (fun q V=>Below T w V∧TlW V T T cs2 bs2 ((tb ls F).take i ++[Qkx M (F i) c])∧∃ k:Nat,k≤SZ∧q=.int .i64 k∧Quz a b at2 k=false) (fun q _=>SZ-(intOf q).toNat)
   case atStart=>exact ⟨hbl5,HT5.out,0,Nat.zero_le _,rfl,rfl⟩
   case round =>
    clear hbl5 HT5;obtain ⟨hbl,hT,k,hk,rfl,hdk⟩:=hrel;have HT:=Zh hT;have HDK:=Zh hdk;clear hT hdk
    by_cases hkS:k<SZ
    rotate_left
    · obtain rfl:k=SZ:=by omega
      have k1:¬((k:Int)<(k:Int)):=by omega
      have HNO:=Zh (show TlW wr T T cs2 bs2 ((tb ls F).take i ++[Qkx M (F i) (c+1)]) by
       rw [Qvj (by rw [HFI.out];exact HDK.out)];exact HT.out)
      clear HT
      go_wp2_with fail
      go_roundw
      case rel=>exact ⟨hbl,c+1,by omega,by go_num,HNO.out⟩
      case measure=>simp [intOf];omega
    have hbw:Below w.heap.size w wr:=by rw [←HTE.out];exact hbl
    obtain ⟨ab,ao,y,rfl,hy,cy⟩:=(HA.out.below hbw).at_ (show at2+k<NC by omega)
    obtain ⟨bb,bo,z,rfl,hz,cz⟩:=(HB.out.below hbw).at_ (show at2+k<NC by omega)
    have HY:=Zh hy;have HZ:=Zh hz;obtain ⟨K,hK⟩:∃ K,K=at2+k:=⟨_,rfl⟩;rw [←hK] at cy cz;have k1:(k:Int)<(SZ:Int):=by omega
    have k2:IntKind.i64.wrap ((at2:Int)+(k:Int))=(K:Int):=by rw [IntWalk.i64_in _ (by omega)];omega
    have k2':(at2:Int)+(k:Int)=(K:Int):=by omega
    have k3:(0:Int)≤(K:Int):=by omega
    have k4:(K:Int)<(NC:Int):=by omega
    have HKE:=Zh hK
    have HDN:=Zh (show Quz a b at2 (k+1)=(y != z) by
     rw [Qwo,HDK.out,List.getD_eq_getElem?_getD,List.getD_eq_getElem?_getD,hy,hz];simp)
    clear hy hz hK hbw
    by_cases hyz:y=z
    · have HD2:=Zh (show Quz a b at2 (k+1)=false by rw [HDN.out];simp [hyz])
      subst hyz
      go_wp2_with fail
      go_quiet (fail)
      go_wp2_with fail
      go_roundw
      case rel=>exact ⟨Qae,HT.out.below Qae,k+1,by omega,by go_num,HD2.out⟩
      case measure=>simp [intOf];omega
    · have e1:(y != z)=true:=by simpa using hyz
      have e2:(y == z)=false:=by simpa using hyz
      have HFT:=Zh (show F i c=true by
       rw [HFI.out]
       cases hd:Quz a b at2 SZ with
       | true=>rfl
       | false =>
        have h1:=Qfw.1 hd k hkS;have h2:=HDN.out;rw [e1] at h2;rw [Qfw.2 (fun j hj=>Qfw.1 hd j (by omega))] at h2
        cases h2)
      have HSL:=Zh (Qry ((tb ls F).take i) (Qkx M (F i) c) ((Qkx M (F i) c).set c true) HRL.out);obtain ⟨rb2,hrb,hcs,hbk,hBb,hbT⟩:=HT.out.get HSL.out.1;have hcc:=HT.out.cell hcs;rw [Qia] at hcc;have hfr:=hbk.frozen c;have hcb:=hbk.cellB (Qjg (F i) c hcM);have HRB:=Zh hrb;clear hyz hrb hcs hbk
      go_wp2_with fail
      go_quiet (fail)
      have HY:=Zh (show TlW ((wr.drewN nq).setCell ⟨rb2,c,none⟩ (.bool true)) T T cs2 bs2 ((tb ls F).take i ++[Qkx M (F i) (c+1)]) by
       rw [fstR_yes hcM HFT.out,←HSL.out.2];exact (HT.out.below (Qae)).mark HRB.out HSL.out.1 true)
      have hb9:Below T w ((wr.drewN nq).setCell ⟨rb2,c,none⟩ (.bool true)):=Below.setCell (Qae) (by omega) _;clear HT
      go_wp2_with fail
      go_roundw
      case rel=>exact ⟨hb9,c+1,by omega,by go_num,HY.out⟩
      case measure=>simp [intOf];omega
/-! other entries -/
def Qno (ar:List Tri) (ls:List (List Int)) (a b:List Int) (k i q:Nat):Bool:=(List.range k).any (fun j=>(decide (Qca ar ls i q≤j) && decide (j<Qca ar ls i q+Qff ar ls i q)) && a.getD j 0 != b.getD j 0)
theorem Qod (ar:List Tri) (ls:List (List Int)) (a b:List Int) (k i q:Nat):Qno ar ls a b (k+1) i q=(Qno ar ls a b k i q || ((decide (Qca ar ls i q≤k) && decide (k<Qca ar ls i q+Qff ar ls i q)) && a.getD k 0 != b.getD k 0)):=by
 unfold Qno;rw [List.range_succ,List.any_append];simp
theorem difR_all {ar:List Tri} {ls:List (List Int)} {a b:List Int} {k i q:Nat} (h:Qca ar ls i q+Qff ar ls i q≤k):Qno ar ls a b k i q=Qpu ar ls a b i q:=by
 refine Qsm ?_;unfold Qno Qpu Quz;rw [List.any_eq_true,List.any_eq_true]
 constructor
 · rintro ⟨j,_,h2⟩
   simp only [Bool.and_eq_true,decide_eq_true_eq] at h2;refine ⟨j-Qca ar ls i q,List.mem_range.2 (by omega),?_⟩;rw [show Qca ar ls i q+(j-Qca ar ls i q)=j by omega]
   exact h2.2
 · rintro ⟨j,h1,h2⟩
   have h1:=List.mem_range.1 h1;refine ⟨Qca ar ls i q+j,List.mem_range.2 (by omega),?_⟩;simp only [Bool.and_eq_true,decide_eq_true_eq];exact ⟨⟨by omega,by omega⟩,h2⟩
theorem Qsp {N:Qaj} {ls:List (List Int)} {k i c a b s t:Nat} {l:List Int} {x:Qam} (h:Qej N ls k i l c x a b s t) {i' q:Nat} {l':List Int} (hl:ls[i']?=some l') (hq:q<(Qai l').toNat) :
 (Qca N.ar ls i' q≤k∧k<Qca N.ar ls i' q+Qff N.ar ls i' q)↔(i'=i∧q=c):=by
 obtain ⟨y,hy⟩:∃ y,(gateRow N.ar l')[q]?=some y:=⟨_,Zg (by rw [Qan];exact hq)⟩;have e1:Qca N.ar ls i' q=Qbf ((gatesOf N.ar ls).take i')+Qda ((gateRow N.ar l').take q):=by unfold Qca;rw [Qcx hl]
 have e2:Qff N.ar ls i' q=szG y:=by unfold Qff;rw [Qcx hl,List.getD_eq_getElem?_getD,hy];rfl
 constructor
 · rintro ⟨h1,h2⟩
   obtain ⟨a',b',s',t',e,g1,g2⟩:=Qhf hy (k:=k-Qca N.ar ls i' q) (by omega);have he:Qej N ls k i' l' q y a' b' s' t':=⟨hl,hy,g1,g2,by unfold Qgk;omega⟩;obtain ⟨rfl,_,rfl,_⟩:=he.inj h;exact ⟨rfl,rfl⟩
 · rintro ⟨rfl,rfl⟩
   have hl2:=h.hl;rw [hl] at hl2
   cases hl2
   have hx2:=h.hx;rw [hy] at hx2
   cases hx2
   have h1:=h.lt;have h3:=Qbl hy;rw [e1,e2];omega
set_option maxHeartbeats 400000 in
theorem Qng (A B:Option Addr)(n m c d:Nat)(l k0:List Bool)(w:World)(h:RdB w A n l)(g:RdB w B m k0)(hn:n≤1000000000)(he:l=k0) :
 Calls prog 45 #[.slice A n c,.slice B m d] w fun e w'=>e=.returned (.bool true)∧∃ q,w'=w.drewN q:=by
 subst he;obtain rfl:n=m:=by rw [←h.1,←g.1]
 go_enter func45,ntmps45
 go_wp2
 go_loopw [5] (fun i W=>∃ k:Nat,k≤n∧i=.int .i64 k∧∃ q,W=w.drewN q) (fun i _=>n-(intOf i).toNat)
 case atStart=>exact ⟨0,Nat.zero_le _,rfl,0,rfl⟩
 case round =>
  obtain ⟨k,hk,rfl,q,rfl⟩:=hrel
  by_cases hlt:k<n
  · obtain ⟨b,o,x,rfl,hx,hc⟩:=h.at_ hlt
    obtain ⟨b',o',y,rfl,hy,hd⟩:=g.at_ hlt;obtain rfl:x=y:=by rw [hx] at hy;exact Option.some.inj hy
    have i1:(0:Int)≤(k:Int):=by omega
    have i2:(k:Int)<(n:Int):=by omega
    clear hx hy
    cases x
    all_goals
     go_wp2
     go_quiet (fail)
     go_wp2
     go_roundw
     case rel=>exact ⟨k+1,by omega,by go_num,q+nq,by simp⟩
     case measure=>simp [intOf];omega
  · go_wp2
    go_ret
    exact ⟨rfl,_,rfl⟩
theorem Qns (Q:Option Addr)(L cq i:Nat)(w:World)(hi:i<L) :
 Calls prog 103 #[.agg #[.slice Q L cq],.int .i64 ((i:Int)+1)] w fun r w'=>r=.returned (.bool true)∧Below w.heap.size w w':=by
 have i1:(1:Int)≤(i:Int)+1:=by omega
 have i2:(i:Int)+1≤(L:Int):=by omega
 go_enter func103,ntmps103
 go_wp2
 go_ret
 exact ⟨Qav (by first|(simp;done)|(simp;omega)),Qae⟩
set_option maxHeartbeats 2000000 in
theorem Qpy (A B C Q:Option Addr)(n m k c d e L cq li:Nat)(N:Qaj) (ls:List (List Int)) (l:List Int) (w:World) (h:Qbo w A B C n m k N) (hok:Qau N) (hq:RdT w Q L ls) (hl:ls[li]?=some l) (hll:l.length=N.vs.length) (hL:L≤1000000) :
 Calls prog 77 #[.agg #[.slice A n c,.slice B m d,.slice C k e],.agg #[.slice Q L cq],.int .i64 ((li:Int)+1)] w fun r w'=>∃ A' n' c',r=.returned (.slice A' n' c')∧RdI w' A' n' (Qao N.ar l)∧(∀ b,Qab A'=some b→w.heap.size≤b)∧Below w.heap.size w w':=by
 have HH:=Zh h;have HM:=Zh h.2.1.1;have hm:m≤16384:=by rw [←h.2.1.1];exact hok.la
 have hliL:li<L:=by rw [←hq.1];exact (Zs hl).1
 obtain ⟨qb,qo,LA,ln,lc,l',rfl,hl',q1,q2,q3,q4⟩:=hq.at_ hliL;rw [hl] at hl'
 cases hl'
 have hln:ln=N.vs.length:=by rw [←q2.1];exact hll
 have i5:(li:Int)+1-1=(li:Int):=by omega
 have i6:(li:Int)<(L:Int):=by omega
 have i7:(0:Int)≤(li:Int):=by omega
 have wl:IntKind.i64.wrap (li:Int)=(li:Int):=IntWalk.i64_in _ (by omega);have HQ:=Zh q2;have HQ1:=Zh q1;have HLN:=Zh hln;have hlv:=hok.lv;have HAR:=Zh hok.arcs;clear h hq hl q1 q2 q3 q4 hll hln hok
 go_enter func77,ntmps77
 go_wp2_with fail
 (refine Qag ?_;intro w1 hw1)
 have hb1:Below w.heap.size w w1:=by rw [hw1];exact Qae
 have hX:Blk w1 w.heap.size 26 #[.slice A n c,.slice B m d,.slice C k e]:=by
  rw [hw1];refine Blk.alloc ?_ _;exact Blk.new _ _ _
 have hY:Blk w1 (w.heap.size+1) 29 #[.slice (some ⟨qb,qo,none⟩) L cq]:=by
  rw [hw1];refine Blk.new' _ _ _ ?_;simp
 clear hw1
 go_loopw [7,8] (fun z q V=>∃ (i:Nat) (A':Option Addr) (c':Nat),i≤m∧q=.int .i64 i∧z=.slice A' (Qic (Qbw l) (N.ar.take i)).length c'∧Own V w1.heap.size 3 1 A' (Qic (Qbw l) (N.ar.take i)).length c' (Qad (Qic (Qbw l) (N.ar.take i)))∧Below w1.heap.size w1 V) (fun _ q _=>m-(intOf q).toNat)
 case atStart=>exact ⟨0,none,0,Nat.zero_le _,rfl,rfl,Own.nil _ _ _ _,Zr _ _⟩
 case round =>
  obtain ⟨i,A',c',hi,rfl,rfl,hown,hbl⟩:=hrel;have hXr:=hX.below hbl hX.lt;have hYr:=hY.below hbl hY.lt;have x1:=hXr.cell 1;have xl:=hXr.lt;have y0:=hYr.cell 0;have yl:=hYr.lt;simp only [List.getElem?_toArray,List.getElem?_cons_zero,List.getElem?_cons_succ] at x1 y0;have hbd:(Qic (Qbw l) (N.ar.take i)).length≤i:=Nat.le_trans (Qhi _ _) (by rw [List.length_take];omega);have HOW:=Zh hown;obtain ⟨no,hno⟩:∃ no,no=(Qic (Qbw l) (N.ar.take i)).length:=⟨_,rfl⟩;rw [←hno] at hbd ⊢;have HNO:=Zh hno;clear hown hno
  by_cases hlt:i<m
  rotate_left
  · obtain rfl:i=m:=by omega
    have i1:¬((i:Int)<(i:Int)):=by omega
    go_wp2_with fail
    go_ret
    refine ⟨A',no,⟨c',rfl⟩,?_,fun b hb=>by have:=(HOW.out.lt b hb).1;have:=hb1.size;omega,Zb hb1 hbl⟩;have:=HOW.out.rds.rdI;rw [List.take_of_length_le (by rw [HM.out];exact Zn _)] at this;rw [HNO.out,List.take_of_length_le (by rw [HM.out];exact Zn _)];exact this
  · have i1:(i:Int)<(m:Int):=by omega
    have i2:(0:Int)≤(i:Int):=by omega
    go_wp2_with fail
    with_reducible refine (Qns _ L cq li wr hliL).mono ?_
    rintro r w2 ⟨rfl,hb2⟩;have hbl2:=Zb hbl hb2;have HOW2:=Zh (HOW.out.below hb2);have hbw:=Zb hb1 hbl2;clear x1 xl y0 yl hXr hYr hb2 hbl HOW;obtain ⟨y,hy⟩:∃ y,N.ar[i]?=some y:=⟨_,Zg (by rw [HM.out];exact hlt)⟩;obtain ⟨b,o,rfl,c0,c1,c2⟩:=(HH.out.below hbw).2.1.2 i y hy;have ho:=HAR.out y (Zm hy);have f0:=ho.f0;have f1:=ho.f1;have g0:=ho.g0;have g1:=ho.g1;obtain ⟨u,hu⟩:∃ u:Nat,y.1=(u:Int):=⟨y.1.toNat,by omega⟩;obtain ⟨v,hv⟩:∃ v:Nat,y.2.1=(v:Int):=⟨y.2.1.toNat,by omega⟩;rw [hu] at c0;rw [hv] at c1;have hun:u<ln:=by rw [HLN.out];omega
    have hvn:v<ln:=by rw [HLN.out];omega
    obtain ⟨b1,o1,z1,rfl,hz1,d1⟩:=(HQ.out.below hbw).at_ hun;obtain ⟨b1',o1',z2,e',hz2,d2⟩:=(HQ.out.below hbw).at_ hvn
    cases e'
    have hqc:=Zc hbw (Zn _) HQ1.out;have hXr:=hX.below hbl2 hX.lt;have hYr:=hY.below hbl2 hY.lt
    have hcr:Qbw l y=(z1 != z2):=by
     unfold Qbw;rw [hu,hv,Qbk hz1,Qbk hz2]
    have j1:(u:Int)<(ln:Int):=by omega
    have j2:(v:Int)<(ln:Int):=by omega
    have j3:(0:Int)≤(u:Int):=by omega
    have j4:(0:Int)≤(v:Int):=by omega
    have HY:=Zh hy;have HCR:=Zh hcr
    have HSX:=Zh (show ∀ V,Below w2.heap.size w2 V→V.cell? ⟨w.heap.size,1,none⟩=some (.slice (some ⟨b,o,none⟩) m d)∧V.cell? ⟨w.heap.size+1,0,none⟩=some (.slice (some ⟨qb,qo,none⟩) L cq)∧V.cell? ⟨qb,qo+li,none⟩=some (.slice (some ⟨b1,o1,none⟩) ln lc)∧V.cell? ⟨b,o+i*3,none⟩=some (.int .i64 u)∧V.cell? ⟨b,o+i*3+1,none⟩=some (.int .i64 v)∧V.cell? ⟨b1,o1+u,none⟩=some (.int .i64 z1)∧V.cell? ⟨b1,o1+v,none⟩=some (.int .i64 z2) from
     fun V hV=>⟨by rw [(hXr.below hV hXr.lt).cell];rfl,by rw [(hYr.below hV hYr.lt).cell];rfl,Zc hV (Zn _) hqc,Zc hV (Zn _) c0,Zc hV (Zn _) c1,Zc hV (Zn _) d1,Zc hV (Zn _) d2⟩)
    clear hy hcr c0 c1 c2 d1 d2 hqc hXr hYr hu hv hz1 hz2 f0 f1 g0 g1 ho
    go_wp2_with fail
    refine wp_region_held_drew (S:=fun V=>Below w2.heap.size w2 V) (by kernel_rfl) (Zr _ _).drew (fun _=>?_);refine tz 0 21 ?_;refine tz 1 22 ?_;refine tz 2 23 ?_;refine tz 3 24 ?_;refine tz 4 25 ?_;refine tz 5 26 ?_;refine tz 6 27 ?_;refine tz 7 28 ?_;refine tz 8 29 ?_;refine tz 9 30 ?_;refine tz 10 31 ?_;refine tz 11 32 ?_;refine tz 12 33 ?_;refine tz 13 34 ?_;refine tz 14 35 ?_;refine tz 15 36 ?_;refine tz 16 37 ?_;refine tz 17 38 ?_;refine tz 18 39 ?_;refine tz 19 40 ?_;refine tz 20 41 ?_;refine tz 21 42 ?_;refine tz 22 43 ?_;refine tz 23 44 ?_;refine tz 24 45 ?_;refine tz 25 46 ?_;refine tz 26 47 ?_;refine tz 27 48 ?_;refine tz 28 49 ?_;refine Zd ?_;clear HSX
    by_cases hv:z1=z2
    · have e1:(z1 != z2)=false:=by simpa using hv
      have HN1:=Zh (show Qic (Qbw l) (N.ar.take (i+1))=Qic (Qbw l) (N.ar.take i) by rw [Qkk HY.out,HCR.out,e1];simp)
      have HE:=Zh hv;clear hv
      go_wp2_with fail
      go_roundw
      case rel=>exact ⟨i+1,A',c',by omega,by go_num,by rw [HN1.out,HNO.out],by rw [HN1.out];exact HOW2.out.drew,hbl2.drew⟩
      case measure=>simp [intOf];omega
    · have e1:(z1 != z2)=true:=by simpa using hv
      obtain ⟨W1,hW1⟩:∃ W1,W1=w2.drew:=⟨_,rfl⟩;have hbW1:Below w1.heap.size w1 W1:=by rw [hW1];exact hbl2.drew
      have hown2:Own W1 w1.heap.size 3 1 A' no c' (Qad (Qic (Qbw l) (N.ar.take i))):=by
       rw [hW1];have:=HOW2.out;rw [←HNO.out] at this;exact this.drew
      rw [←hW1];obtain ⟨W2,hW2⟩:∃ W2,W2=W1.alloc (.cells #[.int .i64 i] 3):=⟨_,rfl⟩;have hown3:Own W2 w1.heap.size 3 1 A' no c' (Qad (Qic (Qbw l) (N.ar.take i))):=by rw [hW2];exact hown2.alloc _
      have hrd:Rds W2 1 (some ⟨W1.heap.size,0,none⟩) 1 (Qad [(i:Int)]):=by rw [hW2];exact (Blk.new W1 3 #[.int .i64 i]).rds rfl
      have hba:Below w1.heap.size w1 W2:=by rw [hW2];exact Below.alloc hbW1 hbW1.size _
      have hsz:w1.heap.size≤W2.heap.size:=hba.size;have HW2:=Zh hW2;have HE:=Zh hv;clear hW2 hown2 hv hW1 hbW1
      go_wp2_with (at_builtin;rw [←HW2.out];with_reducible refine Qap rfl (.tmp 50) (.tmp 52) 93 rfl 3 _ 1 8 Qaw underlying93 rfl (by omega) rfl rfl hown3 hrd (Qah _) (by omega) (by omega) hsz ?_)
      intro A3 c3 w8 ho8 hg8 _;have hb8:Below w1.heap.size w1 w8:=Bel.grownOwn hba hg8 hown3 hsz;have HN0:=Zh (show Qic (Qbw l) (N.ar.take (i+1))=Qic (Qbw l) (N.ar.take i) ++[(i:Int)] by rw [Qkk HY.out,HCR.out,e1,if_pos rfl])
      have HO8:=Zh (show Own w8 w1.heap.size 3 1 A3 (no+1) c3 (Qad (Qic (Qbw l) (N.ar.take (i+1)))) by rw [HN0.out,Qbx];exact ho8)
      have HN1:=Zh (show (Qic (Qbw l) (N.ar.take (i+1))).length=no+1 by rw [HN0.out,List.length_append,←HNO.out];rfl)
      clear hown3 hrd hba hsz ho8 hg8
      go_wp2_with fail
      go_roundw
      case rel=>exact ⟨i+1,A3,c3,by omega,by go_num,by rw [HN1.out],by rw [HN1.out];exact HO8.out,hb8⟩
      case measure=>simp [intOf];omega
end Go.Proofs.YthoagdpakddbdaaGreatDoor
