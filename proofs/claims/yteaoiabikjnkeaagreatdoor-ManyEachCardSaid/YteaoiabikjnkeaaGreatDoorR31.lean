/- Parts of the proof: TaK, MnQ, TaR, TaT, TaN, ScS. -/
import Derived.Test.YteaoiabikjnkeaaGreatDoorR1
import Derived.Test.YteaoiabikjnkeaaGreatDoorR4
import Derived.Test.YteaoiabikjnkeaaGreatDoorR7
import Derived.Test.YteaoiabikjnkeaaGreatDoorR24
import Derived.Test.YteaoiabikjnkeaaGreatDoorR25
import Derived.Test.YteaoiabikjnkeaaGreatDoorR30
namespace Go.Proofs.YteaoiabikjnkeaaGreatDoor
open Go.RowKit Go.Proofs.Tryz
attribute [local go_sem ↓] Go.wp_at_zero Go.wp_at_succ
theorem Qci (s:ByteArray)(k c:Int)(w:World):Calls prog 83 #[.string s,.int .i64 k,.int .i64 c] w fun e w'=>∃ v,e=.returned v∧Qcl w' v [(s,k)] c∧Below w.heap.size w w':=by
 go_enter func83,ntmps83
 go_wp2
 go_ret
 refine ⟨_,rfl,⟨w.heap.size,0,Quv c,rfl,?_,?_,?_,rfl⟩,Qah⟩
 all_goals simp
def KnwP (w:World)(s:ByteArray)(b:Option Nat)(e:Ending)(w':World):Prop:=(match b with|none=>e=.returned .nilIface|some i=>∃ v,e=.returned v∧Qcl w' v [(s,(i:Int))] 5)∧Below w.heap.size w w'
set_option maxHeartbeats 1000000 in
theorem Qkc (w:World)(g:Nat)(N:Qap)(s:ByteArray)(A:Option Addr)(n c:Nat)(l:List Int)(hg:Qfv w g N)(hl:RdI w A n l)(hn:n≤1000000) :
 Calls prog 86 #[.pointer (some ⟨g,0,none⟩),.string s,.slice A n c] w (KnwP w s (Qdc N.ar.length l)):=by
 obtain ⟨m,hmm⟩:∃ m,m=N.ar.length:=⟨_,rfl⟩;have HGA:=Zh (show ∀ V,Below w.heap.size w V→Calls prog 85 #[.pointer (some ⟨g,0,none⟩)] V fun e w'=>e=.returned (.int .i64 (m:Int))∧V=w' from fun V hV=>by rw [hmm];exact Qfp g N V (hg.below hV))
 have HL:=Zh hl;have HLN:=Zh hl.1;rw [←hmm];clear hg hl hmm
 go_enter func86,ntmps86
 go_wp2_with fail
 go_loopw [11] (fun q W=>∃ i:Nat,i≤n∧q=.int .i64 i∧W=w∧∀ (k:Nat) (b:Int),k<i→l[k]?=some b→0≤b∧b<(m:Int)) (fun q _=>n-(intOf q).toNat)
 case atStart=>exact ⟨0,Nat.zero_le _,rfl,rfl,fun k b hk=>by omega⟩
 case round =>
  obtain ⟨i,hi,rfl,rfl,hk⟩:=hrel;have HK:=Zh hk;clear hk
  by_cases hlt:i<n
  rotate_left
  · obtain rfl:n=i:=by omega
    have i1:¬(n:Int)<(n:Int):=by omega
    have HN:=Zh (Qhw (m:=m) (fun k b hk=>HK.out k b (by have:=(Zs hk).1;have:=HLN.out;omega) hk))
    go_wp2_with fail
    go_ret
    rw [HN.out];exact ⟨rfl,Zr _ _⟩
  obtain ⟨b0,o0,a,rfl,ha,ca⟩:=HL.out.at_ hlt;have i1:(i:Int)<(n:Int):=by omega
  have i2:(0:Int)≤(i:Int):=by omega
  have HA:=Zh ha;clear ha
  by_cases h1:a<0
  · have HN:=Zh (Qjq HK.out HA.out (.inl h1))
    go_wp2_with fail
    with_reducible refine (Qci _ _ _ _).mono ?_
    rintro r w5 ⟨v,rfl,hc5,hb5⟩;have HC:=Zh hc5;clear hc5
    go_wp2_with fail
    go_ret
    rw [HN.out];exact ⟨⟨_,rfl,HC.out⟩,hb5⟩
  by_cases h2:(m:Int)≤a
  · have HN:=Zh (Qjq HK.out HA.out (.inr h2))
    go_wp2_with fail
    with_reducible refine (HGA.out _ (Zr _ _)).mono ?_
    rintro r w' ⟨rfl,rfl⟩
    go_wp2_with fail
    with_reducible refine (Qci _ _ _ _).mono ?_
    rintro r w5 ⟨v,rfl,hc5,hb5⟩;have HC:=Zh hc5;clear hc5
    go_wp2_with fail
    go_ret
    rw [HN.out];exact ⟨⟨_,rfl,HC.out⟩,hb5⟩
  have HN:=Zh (show ∀ (k:Nat) (b:Int),k<i+1→l[k]?=some b→0≤b∧b<(m:Int) from fun k b hk hb=>by
   by_cases e:k<i
   · exact HK.out k b e hb
   · obtain rfl:k=i:=by omega
     rw [HA.out] at hb
     cases hb
     omega)
  go_wp2_with fail
  with_reducible refine (HGA.out _ (Zr _ _)).mono ?_
  rintro r w' ⟨rfl,rfl⟩
  go_wp2_with fail
  go_roundw
  case rel=>exact ⟨i+1,by omega,by go_num,by first|rfl|trivial,HN.out⟩
  case measure=>simp [intOf];omega
set_option maxRecDepth 20000 in
set_option maxHeartbeats 1000000 in
theorem Qir (w:World)(g o:Nat)(N:Qap) (ls:List (List Int)) (TA:Option Addr) (nt ct:Nat) (tl:List Int) (CA:Option Addr) (NC cC:Nat) (cl:List Int) (hg:Qfv w g N) (ho:Qgy w o N.ar ls) (hc:RdI w CA NC cl) (ht:RdI w TA nt tl) (hok:Qaz N) (hP:Qbn N.vs.length ls) :
 Calls prog 87 #[.pointer (some ⟨g,0,none⟩),.pointer (some ⟨o,0,none⟩),.slice CA NC cC,.slice TA nt ct] w fun e w'=>∃ qb Q cq mb,e=.returned (.pointer (some ⟨qb,0,none⟩)) ∧
  MR (msk w' (fun b=>b<w'.heap.size∧b≠mb)) qb g o N ls TA nt ct tl CA NC cC cl Q ls.length cq mb∧MpQ w' mb 0 (fun _ _=>none)∧w.heap.size≤mb∧Below w.heap.size w w':=by
 have HG:=Zh hg;have HO:=Zh ho;have HC:=Zh hc;have HTT:=Zh ht;have HPT:=Zh (Qvy o N.ar ls w ho (by have:=hP.l6;omega) (fun l hl=>by have:=(hP.lvl l hl).len;have:=hok.lv;omega));obtain ⟨L,hL⟩:∃ L,L=ls.length:=⟨_,rfl⟩;rw [←hL] at HPT;rw [←hL];clear hg ho hc ht hok hP hL
 go_enter func87,ntmps87
 go_wp2_with fail
 with_reducible refine HPT.out.mono ?_
 rintro r w1 ⟨Q,cq,rfl,hQ,hb1⟩;have HQ:=Zh hQ;have hfl:∀ V,(Instr.field 87 (.agg #[.slice Q L cq]) 0).run prog V=.ok (.slice Q L cq) V:=fun V=>by rfl
 have hmm:=@run_makeMap prog;clear hQ HPT
 go_wp2_with fail
 obtain ⟨mb,hmb⟩:∃ b,b=w1.heap.size:=⟨_,rfl⟩;obtain ⟨w2,hw2⟩:∃ V,V=w1.alloc (.map #[] 0):=⟨_,rfl⟩;have hb2:Below w1.heap.size w1 w2:=by rw [hw2];exact Qah
 have HM2:=Zh (show MpQ w2 mb 0 (fun _ _=>none) by rw [hw2,hmb];exact MpQ.new w1)
 have s2:w2.heap.size=mb+1:=by rw [hw2,World.size_alloc,hmb]
 obtain ⟨w4,hw4⟩:∃ V,V=w2.alloc (.cells #[.pointer (some ⟨g,0,none⟩),.pointer (some ⟨o,0,none⟩),.slice CA NC cC,.slice TA nt ct,.slice Q L cq,.map (some mb)] 263):=⟨_,rfl⟩;have hB4:Blk w4 (mb+1) 263 #[.pointer (some ⟨g,0,none⟩),.pointer (some ⟨o,0,none⟩),.slice CA NC cC,.slice TA nt ct,.slice Q L cq,.map (some mb)]:=by rw [hw4];exact Blk.new' _ _ _ s2.symm
 have hb4:Below w2.heap.size w2 w4:=by rw [hw4];exact (Zr _ _).alloc (Zn _) _
 have s4:w4.heap.size=mb+2:=by rw [hw4,World.size_alloc,s2]
 have s1:w.heap.size≤mb:=by rw [hmb];exact hb1.size
 have hb14:=Zb hb2 hb4;have hb04:=Zb hb1 hb14;have hle:Le w (msk w4 (fun b=>b<w4.heap.size∧b≠mb)):=Le.mskBelow hb04 (fun b hb=>⟨by omega,by omega⟩);have hmk4:∀ i v,w4.cell? ⟨mb+1,i,none⟩=some v→(msk w4 (fun b=>b<w4.heap.size∧b≠mb)).cell? ⟨mb+1,i,none⟩=some v:=fun i v h=>Qev h ⟨by omega,by omega⟩
 have hqq:RdT (msk w4 (fun b=>b<w4.heap.size∧b≠mb)) Q L ls:=HQ.out.le (fun a v h=>by
  obtain ⟨h1,h2⟩:=Qbd.1 h;exact Qbd.2 ⟨⟨by have:=h1.2;omega,by have:=h1.2;omega⟩,Zc hb14 (Zn _) h2⟩)
 rw [←hmb,←hw2,←hw4];clear hw2 hw4
 go_ret
 exact ⟨mb+1,Q,cq,mb,rfl,⟨HG.out.le hle,HO.out.le hle,hqq,HC.out.le hle,HTT.out.le hle,hmk4 _ _ (Zq hB4),hmk4 _ _ (Zq hB4),hmk4 _ _ (Zq hB4),hmk4 _ _ (Zq hB4),hmk4 _ _ (Zq hB4),hmk4 _ _ (Zq hB4)⟩,HM2.out.below hb4,s1,hb04⟩
def Qlg (w:World)(N:Qap)(s:Int)(nt:Nat)(tl:List Int) (b:Option (ByteArray×Int×Int)) (e:Ending) (w':World):Prop :=
 (match b with|none=>∃ rb row,e=.returned (.tuple #[.slice (some ⟨rb,0,none⟩) nt nt,.nilIface])∧Blk w' rb 2 (Qbu row)∧Qgm N s.toNat tl row∧w.heap.size≤rb|some (p,k,c)=>∃ v,e=.returned (.tuple #[.slice none 0 0,v])∧Qcl w' v [(p,k)] c)∧Below w.heap.size w w'
theorem Qpu {N:Qap}{l:List Int} (h:∀ (i:Nat) (a:Int),l[i]?=some a→0≤a∧a<(N.ar.length:Int)) (i:Nat) (t:Int) (ht:l[i]?=some t):∃ (a:Nat) (y:Tri),t=(a:Int)∧N.ar[a]?=some y:=by
 have:=h i t ht;exact ⟨t.toNat,_,by omega,Zg (by omega)⟩
set_option maxHeartbeats 2000000 in
theorem Qfu (w:World)(g o:Nat)(N:Qap) (ls:List (List Int)) (CA:Option Addr) (NC cC S:Nat) (cl:List Int) (TA:Option Addr) (nt ct:Nat) (tl:List Int) (s:Int) (hg:Qfv w g N) (ho:Qgy w o N.ar ls) (hc:RdI w CA NC cl) (ht:RdI w TA nt tl) (hok:Qaz N) (hP:Qbn N.vs.length ls) (hS:S=Qcd (Qaf N.ar ls)) (hA:NC=S→Qee N ls cl) (hcc:NC≤cC∧cC≤9223372036854775807) (hSm:S≤1000000000) :
 Calls prog 30 #[.pointer (some ⟨g,0,none⟩),.pointer (some ⟨o,0,none⟩),.slice CA NC cC,.int .i64 s,.slice TA nt ct] w (Qlg w N s nt tl (Qcs nt NC S N.ar.length s tl)):=by
 obtain ⟨m,hmm⟩:∃ m,m=N.ar.length:=⟨_,rfl⟩;have HGA:=Zh (show Calls prog 85 #[.pointer (some ⟨g,0,none⟩)] w fun e w'=>e=.returned (.int .i64 m)∧w=w' from by rw [hmm];exact Qfp g N w hg)
 have HSZ:=Zh (show Calls prog 84 #[.pointer (some ⟨o,0,none⟩)] w fun e w'=>e=.returned (.int .i64 (S:Nat))∧w=w' from by rw [hS];exact Qku o N.ar ls w ho)
 have HKN:=Zh (show nt≤1000000→Calls prog 86 #[.pointer (some ⟨g,0,none⟩),.string (⟨#[116,111]⟩:ByteArray),.slice TA nt ct] w (KnwP w (⟨#[116,111]⟩:ByteArray) (Qdc m tl)) from fun hnt=>by rw [hmm];exact Qkc w g N (⟨#[116,111]⟩:ByteArray) TA nt ct tl hg ht hnt)
 have HNQ:=Zh (fun V (hV:Below w.heap.size w V)=>Qir V g o N ls TA nt ct tl CA NC cC cl (hg.below hV) (ho.below hV) (hc.below hV) (ht.below hV) hok hP);have HRW:=Zh (fun (hNS:NC=S) (V:World) (qb:Nat) (Q:Option Addr) (cq mb sn:Nat) (xs:Tri) G h hGm hGl hm hmc hxs hts hnt=>Quz V qb g o N ls TA nt ct tl CA NC cC cl Q ls.length cq mb sn xs G 0 (fun _ _=>none) h hGm hGl hm (by omega) hmc hok hP (hA hNS) hcc (hS▸hSm) hxs hts hnt);have HDS:=Zh (fun (hNS:NC=S) (sn:Nat) (xs:Tri) (row:List Int) (hxs:N.ar[sn]?=some xs) (h:RowQ N ls (avM N sn tl nt) sn tl row)=>h.dist hok hP (hA hNS) hxs ht.1);have HMM:=Zh hmm;rw [←hmm];clear hg ho hc ht hok hP hS hA hcc hmm;unfold Qcs
 by_cases i1:64<nt
 · rw [if_pos i1]
   unfold Qlg;have i1':(64:Int)<(nt:Int):=by omega
   go_enter func30,ntmps30
   go_wp2_with fail
   with_reducible refine (Qci _ _ _ _).mono ?_
   rintro r w5 ⟨v,rfl,hc5,hb5⟩;obtain ⟨tv,xv,rfl⟩:=Qam hc5;have HC:=Zh hc5;clear hc5
   go_wp2_with fail
   refine bodyPost_ret (v:=.tuple #[.slice none 0 0,.iface tv xv]) (by simp [results,results30,go_sem]) rfl ?_;exact ⟨⟨_,rfl,HC.out⟩,hb5⟩
 rw [if_neg i1];have i1':¬(64:Int)<(nt:Int):=by omega
 by_cases i2:NC=S
 rotate_left
 · rw [if_pos i2]
   unfold Qlg;have i2':¬(NC:Int)=(S:Int):=by omega
   go_enter func30,ntmps30
   go_wp2_with fail
   with_reducible refine HSZ.out.mono ?_
   rintro r w' ⟨rfl,rfl⟩
   go_wp2_with fail
   with_reducible refine (Qci _ _ _ _).mono ?_
   rintro r w5 ⟨v,rfl,hc5,hb5⟩;obtain ⟨tv,xv,rfl⟩:=Qam hc5;have HC:=Zh hc5;clear hc5
   go_wp2_with fail
   refine bodyPost_ret (v:=.tuple #[.slice none 0 0,.iface tv xv]) (by simp [results,results30,go_sem]) rfl ?_;exact ⟨⟨_,rfl,HC.out⟩,hb5⟩
 rw [if_neg (fun h=>h i2)];subst i2
 by_cases i3:s<0
 · rw [if_pos (.inl i3)]
   unfold Qlg
   go_enter func30,ntmps30
   go_wp2_with fail
   with_reducible refine HSZ.out.mono ?_
   rintro r w' ⟨rfl,rfl⟩
   go_wp2_with fail
   with_reducible refine (Qci _ _ _ _).mono ?_
   rintro r w5 ⟨v,rfl,hc5,hb5⟩;obtain ⟨tv,xv,rfl⟩:=Qam hc5;have HC:=Zh hc5;clear hc5
   go_wp2_with fail
   refine bodyPost_ret (v:=.tuple #[.slice none 0 0,.iface tv xv]) (by simp [results,results30,go_sem]) rfl ?_;exact ⟨⟨_,rfl,HC.out⟩,hb5⟩
 by_cases i4:(m:Int)≤s
 · rw [if_pos (.inr i4)]
   unfold Qlg
   go_enter func30,ntmps30
   go_wp2_with fail
   with_reducible refine HSZ.out.mono ?_
   rintro r w' ⟨rfl,rfl⟩
   go_wp2_with fail
   with_reducible refine HGA.out.mono ?_
   rintro r w' ⟨rfl,rfl⟩
   go_wp2_with fail
   with_reducible refine (Qci _ _ _ _).mono ?_
   rintro r w5 ⟨v,rfl,hc5,hb5⟩;obtain ⟨tv,xv,rfl⟩:=Qam hc5;have HC:=Zh hc5;clear hc5
   go_wp2_with fail
   refine bodyPost_ret (v:=.tuple #[.slice none 0 0,.iface tv xv]) (by simp [results,results30,go_sem]) rfl ?_;exact ⟨⟨_,rfl,HC.out⟩,hb5⟩
 rw [if_neg (by omega)];obtain ⟨sn,rfl⟩:∃ sn:Nat,s=(sn:Int):=⟨s.toNat,by omega⟩
 cases hbad:Qdc m tl with
 | some i =>
  rw [hbad] at HKN;rw [Option.map_some];unfold Qlg;clear HNQ HRW HDS
  go_enter func30,ntmps30
  go_wp2_with fail
  with_reducible refine HSZ.out.mono ?_
  rintro r w' ⟨rfl,rfl⟩
  go_wp2_with fail
  with_reducible refine HGA.out.mono ?_
  rintro r w' ⟨rfl,rfl⟩
  go_wp2_with fail
  with_reducible refine (HKN.out (by omega)).mono ?_
  rintro r w5 ⟨⟨v,rfl,hc5⟩,hb5⟩;obtain ⟨tv,xv,rfl⟩:=Qam hc5;have HC:=Zh hc5;clear hc5
  go_wp2_with fail
  refine bodyPost_ret (v:=.tuple #[.slice none 0 0,.iface tv xv]) (by simp [results,results30,go_sem]) rfl ?_;exact ⟨⟨_,rfl,HC.out⟩,hb5⟩
 | none =>
  rw [hbad] at HKN;rw [Option.map_none];unfold Qlg;obtain ⟨xs,hxs⟩:∃ xs,N.ar[sn]?=some xs:=⟨_,Zg (by rw [←HMM.out];omega)⟩;have HXS:=Zh hxs;have HTS:=Zh (Qpu (N:=N) (l:=tl) (by rw [←HMM.out];exact Qdx hbad));clear hbad hxs HMM
  go_enter func30,ntmps30
  go_wp2_with fail
  with_reducible refine HSZ.out.mono ?_
  rintro r w' ⟨rfl,rfl⟩
  go_wp2_with fail
  with_reducible refine HGA.out.mono ?_
  rintro r w' ⟨rfl,rfl⟩
  go_wp2_with fail
  with_reducible refine (HKN.out (by omega)).mono ?_
  rintro r w5 ⟨rfl,hb5⟩;have HB5:=Zh hb5;clear hb5
  go_wp2_with fail
  with_reducible refine (HNQ.out w5 HB5.out).mono ?_
  rintro r w6 ⟨qb,Q,cq,mb,rfl,hq,hm,hmb,hb6⟩;have HB6:=Zh (Zb HB5.out hb6);have HR6:=Zh (HRW.out (by first|rfl|trivial) w6 qb Q cq mb sn xs _ hq (fun h=>h.2 rfl) (fun b h=>h.1) hm (fun i k u hu=>by cases hu) HXS.out HTS.out (by omega))
  clear hq hb6 HNQ HRW
  go_wp2_with fail
  with_reducible refine HR6.out.mono ?_
  rintro r w7 ⟨rb,n',f',row,rfl,hrq,hrb,hge,_,_,_,hx⟩;have HR7:=Zh hrb;have HRQ:=Zh (HDS.out (by first|rfl|trivial) sn xs row HXS.out hrq)
  have hb7:Below w.heap.size w6 w7:=hx.bel _ (by have:=HB5.out.size;omega);clear hrq hrb hx HR6
  go_wp2_with fail
  refine bodyPost_ret (v:=.tuple #[.slice (some ⟨rb,0,none⟩) nt nt,.nilIface]) (by simp [results,results30,go_sem]) rfl ?_;exact ⟨⟨rb,row,rfl,HR7.out,HRQ.out,by have:=HB6.out.size;omega⟩,HB6.out.trans hb7⟩
theorem infoR64:(Tryz.prog.info? 34).map (fun i=>(i.zero,i.size,i.bytes))=some (some (.slice none 0 0),1,24):=by kernel_rfl
theorem Quk (n:Nat)(hn:n≤1000000)(W:World):(Instr.makeSlice 51 (.int .i64 (n:Int)) (.int .i64 (n:Int))).run prog W=.ok (.slice (some ⟨W.heap.size,0,none⟩) n n) (W.alloc (.cells (Qbo (.slice none 0 0) n) 34)) :=
 Qdk (P:=prog) 51 34 (.slice none 0 0) 24 infoR64 underlying51 rfl n (by omega) (by omega) .i64 .i64 W
structure TbW (W:World) (mb tb ns nt:Nat) (rows:List (List Int)):Prop where
 bk:∃ cs:Array Value,Blk W tb 34 cs∧cs.size=ns∧∀ (k:Nat) (row:List Int),rows[k]?=some row→∃ rb,cs[k]?=some (Value.slice (some ⟨rb,0,none⟩) nt nt)∧Blk W rb 2 (Qbu row)∧row.length=nt∧rb≠mb∧rb≠tb
 ne:tb≠mb
section
variable {W W':World} {mb tb ns nt:Nat} {rows:List (List Int)}
theorem TbW.new (w:World)(h:mb<w.heap.size):TbW (w.alloc (.cells (Qbo (.slice none 0 0) ns) 34)) mb w.heap.size ns nt [] :=
 ⟨⟨_,Blk.new _ _ _,by simp [Qbo],fun k row h=>by simp at h⟩,by omega⟩
theorem TbW.nx (h:TbW W mb tb ns nt rows)(hx:Nxw mb W W'):TbW W' mb tb ns nt rows:=by
 obtain ⟨⟨cs,h1,h2,h3⟩,h4⟩:=h;refine ⟨⟨cs,(hx.kept tb h4 h1.lt).trans h1,h2,fun k row hk=>?_⟩,h4⟩;obtain ⟨rb,g1,g2,g3,g4,g5⟩:=h3 k row hk;exact ⟨rb,g1,(hx.kept rb g4 g2.lt).trans g2,g3,g4,g5⟩
theorem TbW.put {rb:Nat}{row:List Int}(h:TbW W mb tb ns nt rows) (hB:Blk W rb 2 (Qbu row)) (h1:row.length=nt) (h2:rb≠mb) (h3:rb≠tb) (h4:rows.length<ns) :
 TbW (W.setCell ⟨tb,rows.length,none⟩ (.slice (some ⟨rb,0,none⟩) nt nt)) mb tb ns nt (rows ++[row]):=by
 obtain ⟨⟨cs,k1,k2,k3⟩,k4⟩:=h;refine ⟨⟨_,k1.set_ _ _,by rw [Array.size_setIfInBounds];exact k2,fun k r hk=>?_⟩,k4⟩
 by_cases e:k<rows.length
 · rw [List.getElem?_append_left e] at hk
   obtain ⟨b,g1,g2,g3,g4,g5⟩:=k3 k r hk;exact ⟨b,by rw [Array.getElem?_setIfInBounds_ne (by omega)];exact g1,g2.far_ g5 _,g3,g4,g5⟩
 · have hl:=(Zs hk).1
   rw [List.length_append,List.length_singleton] at hl;obtain rfl:k=rows.length:=by omega
   rw [List.getElem?_append_right (Zn _),Nat.sub_self] at hk
   cases hk
   exact ⟨rb,by rw [Array.getElem?_setIfInBounds_self_of_lt (by omega)],hB.far_ h3 _,h1,h2,h3⟩
theorem TbW.cell (h:TbW W mb tb ns nt rows){i:Nat}(hi:i<ns):(∃ v,W.cell? ⟨tb,i,none⟩=some v)∧W.frozen? ⟨tb,i,none⟩=false:=by
 obtain ⟨⟨cs,k1,k2,_⟩,_⟩:=h;exact ⟨⟨_,by rw [k1.cell];exact Array.getElem?_eq_getElem (by omega)⟩,k1.frozen i⟩
theorem TbW.rdT (h:TbW W mb tb ns nt rows)(hl:rows.length=ns)(hn:nt≤1000000):RdT W (some ⟨tb,0,none⟩) ns rows:=by
 obtain ⟨⟨cs,k1,k2,k3⟩,_⟩:=h;refine ⟨hl,fun i l hi=>?_⟩;obtain ⟨rb,g1,g2,g3,_⟩:=k3 i l hi;exact ⟨tb,0,_,_,_,rfl,by rw [Nat.zero_add,k1.cell];exact g1,g2.rdI g3,Zn _,by omega⟩
theorem TbW.lt (h:TbW W mb tb ns nt rows):tb<W.heap.size:=by
 obtain ⟨⟨cs,k1,_⟩,_⟩:=h;exact k1.lt
end
def Qoc (w:World)(N:Qap)(ns:Nat)(sl tl:List Int) (b:Option (ByteArray×Int×Int)) (e:Ending) (w':World):Prop :=
 (match b with|none=>∃ A rows,e=.returned (.tuple #[.slice A ns ns,.nilIface])∧RdT w' A ns rows∧(∀ (k:Nat) (s:Int),sl[k]?=some s→∃ row,rows[k]?=some row∧Qgm N s.toNat tl row)|some (p,k,c)=>∃ v,e=.returned (.tuple #[.slice none 0 0,v])∧Qcl w' v [(p,k)] c)∧Below w.heap.size w w'
set_option maxHeartbeats 2000000 in
theorem Qis (w:World)(g o:Nat)(N:Qap) (ls:List (List Int)) (CA:Option Addr) (NC cC S:Nat) (cl:List Int) (SA TA:Option Addr) (ns cs nt ct:Nat) (sl tl:List Int) (hg:Qfv w g N) (ho:Qgy w o N.ar ls) (hc:RdI w CA NC cl) (hs:RdI w SA ns sl) (ht:RdI w TA nt tl) (hok:Qaz N) (hP:Qbn N.vs.length ls) (hS:S=Qcd (Qaf N.ar ls)) (hA:NC=S→Qee N ls cl) (hcc:NC≤cC∧cC≤9223372036854775807) (hSm:S≤1000000000) :
 Calls prog 37 #[.pointer (some ⟨g,0,none⟩),.pointer (some ⟨o,0,none⟩),.slice CA NC cC,.slice SA ns cs,.slice TA nt ct] w (Qoc w N ns sl tl (Qlz ns nt NC S N.ar.length sl tl)):=by
 obtain ⟨m,hmm⟩:∃ m,m=N.ar.length:=⟨_,rfl⟩;have HSZ:=Zh (show Calls prog 84 #[.pointer (some ⟨o,0,none⟩)] w fun e w'=>e=.returned (.int .i64 (S:Nat))∧w=w' from by rw [hS];exact Qku o N.ar ls w ho)
 have HKS:=Zh (show ns≤1000000→Calls prog 86 #[.pointer (some ⟨g,0,none⟩),.string (⟨#[102,114,111,109]⟩:ByteArray),.slice SA ns cs] w (KnwP w (⟨#[102,114,111,109]⟩:ByteArray) (Qdc m sl)) from fun h=>by rw [hmm];exact Qkc w g N (⟨#[102,114,111,109]⟩:ByteArray) SA ns cs sl hg hs h)
 have HKN:=Zh (fun V (hV:Below w.heap.size w V) (hnt:nt≤1000000)=>show Calls prog 86 #[.pointer (some ⟨g,0,none⟩),.string (⟨#[116,111]⟩:ByteArray),.slice TA nt ct] V (KnwP V (⟨#[116,111]⟩:ByteArray) (Qdc m tl)) from by rw [hmm];exact Qkc V g N (⟨#[116,111]⟩:ByteArray) TA nt ct tl (hg.below hV) (ht.below hV) hnt)
 have HNQ:=Zh (fun V (hV:Below w.heap.size w V)=>Qir V g o N ls TA nt ct tl CA NC cC cl (hg.below hV) (ho.below hV) (hc.below hV) (ht.below hV) hok hP);have HRW:=Zh (fun (hNS:NC=S) (V:World) (qb:Nat) (Q:Option Addr) (cq mb sn:Nat) (xs:Tri) G n f h hGm hGl hm hn hmc hxs hts hnt=>Quz V qb g o N ls TA nt ct tl CA NC cC cl Q ls.length cq mb sn xs G n f h hGm hGl hm hn hmc hok hP (hA hNS) hcc (hS▸hSm) hxs hts hnt);have HDS:=Zh (fun (hNS:NC=S) (sn:Nat) (xs:Tri) (row:List Int) (hxs:N.ar[sn]?=some xs) (h:RowQ N ls (avM N sn tl nt) sn tl row)=>h.dist hok hP (hA hNS) hxs ht.1);have HMM:=Zh hmm;have HSL:=Zh (fun V (hV:Below w.heap.size w V)=>hs.below hV);have HLS:=Zh hs.1;have HLT:=Zh ht.1;rw [←hmm];clear hg ho hc hs ht hok hP hS hA hcc hmm;unfold Qlz
 by_cases i0:64<ns
 · rw [if_pos i0]
   unfold Qoc;have i0':(64:Int)<(ns:Int):=by omega
   go_enter func37,ntmps37
   go_wp2_with fail
   with_reducible refine (Qci _ _ _ _).mono ?_
   rintro r w5 ⟨v,rfl,hc5,hb5⟩;obtain ⟨tv,xv,rfl⟩:=Qam hc5;have HC:=Zh hc5;clear hc5
   go_wp2_with fail
   refine bodyPost_ret (v:=.tuple #[.slice none 0 0,.iface tv xv]) (by simp [results,results37,go_sem]) rfl ?_;exact ⟨⟨_,rfl,HC.out⟩,hb5⟩
 rw [if_neg i0];have i0':¬(64:Int)<(ns:Int):=by omega
 by_cases i1:64<nt
 · rw [if_pos i1]
   unfold Qoc;have i1':(64:Int)<(nt:Int):=by omega
   go_enter func37,ntmps37
   go_wp2_with fail
   with_reducible refine (Qci _ _ _ _).mono ?_
   rintro r w5 ⟨v,rfl,hc5,hb5⟩;obtain ⟨tv,xv,rfl⟩:=Qam hc5;have HC:=Zh hc5;clear hc5
   go_wp2_with fail
   refine bodyPost_ret (v:=.tuple #[.slice none 0 0,.iface tv xv]) (by simp [results,results37,go_sem]) rfl ?_;exact ⟨⟨_,rfl,HC.out⟩,hb5⟩
 rw [if_neg i1];have i1':¬(64:Int)<(nt:Int):=by omega
 by_cases i2:NC=S
 rotate_left
 · rw [if_pos i2]
   unfold Qoc;have i2':¬(NC:Int)=(S:Int):=by omega
   go_enter func37,ntmps37
   go_wp2_with fail
   with_reducible refine HSZ.out.mono ?_
   rintro r w' ⟨rfl,rfl⟩
   go_wp2_with fail
   with_reducible refine (Qci _ _ _ _).mono ?_
   rintro r w5 ⟨v,rfl,hc5,hb5⟩;obtain ⟨tv,xv,rfl⟩:=Qam hc5;have HC:=Zh hc5;clear hc5
   go_wp2_with fail
   refine bodyPost_ret (v:=.tuple #[.slice none 0 0,.iface tv xv]) (by simp [results,results37,go_sem]) rfl ?_;exact ⟨⟨_,rfl,HC.out⟩,hb5⟩
 rw [if_neg (fun h=>h i2)];subst i2
 cases hbs:Qdc m sl with
 | some i =>
  rw [hbs] at HKS;unfold Qoc;clear HNQ HRW HDS
  go_enter func37,ntmps37
  go_wp2_with fail
  with_reducible refine HSZ.out.mono ?_
  rintro r w' ⟨rfl,rfl⟩
  go_wp2_with fail
  with_reducible refine (HKS.out (by omega)).mono ?_
  rintro r w6 ⟨⟨v,rfl,hc5⟩,hb6⟩;obtain ⟨tv,xv,rfl⟩:=Qam hc5;have HC:=Zh hc5;clear hc5
  go_wp2_with fail
  refine bodyPost_ret (v:=.tuple #[.slice none 0 0,.iface tv xv]) (by simp [results,results37,go_sem]) rfl ?_;exact ⟨⟨_,rfl,HC.out⟩,hb6⟩
 | none =>
 rw [hbs] at HKS
 cases hbt:Qdc m tl with
 | some i =>
  rw [hbt] at HKN;rw [Option.map_some];unfold Qoc;clear HNQ HRW HDS
  go_enter func37,ntmps37
  go_wp2_with fail
  with_reducible refine HSZ.out.mono ?_
  rintro r w' ⟨rfl,rfl⟩
  go_wp2_with fail
  with_reducible refine (HKS.out (by omega)).mono ?_
  rintro r w5 ⟨rfl,hb5⟩
  go_wp2_with fail
  with_reducible refine (HKN.out w5 hb5 (by omega)).mono ?_
  rintro r w6 ⟨⟨v,rfl,hc5⟩,hb6⟩;obtain ⟨tv,xv,rfl⟩:=Qam hc5;have HC:=Zh hc5;clear hc5
  go_wp2_with fail
  refine bodyPost_ret (v:=.tuple #[.slice none 0 0,.iface tv xv]) (by simp [results,results37,go_sem]) rfl ?_;exact ⟨⟨_,rfl,HC.out⟩,Zb hb5 hb6⟩
 | none =>
 rw [hbt] at HKN;rw [Option.map_none];have HSS:=Zh (Qpu (N:=N) (l:=sl) (by rw [←HMM.out];exact Qdx hbs));have HTS:=Zh (Qpu (N:=N) (l:=tl) (by rw [←HMM.out];exact Qdx hbt));have hmt:=Quk ns (by omega);clear hbs hbt HMM
 go_enter func37,ntmps37
 go_wp2_with fail
 with_reducible refine HSZ.out.mono ?_
 rintro r w' ⟨rfl,rfl⟩
 go_wp2_with fail
 with_reducible refine (HKS.out (by omega)).mono ?_
 rintro r w4 ⟨rfl,hb4⟩;have HB4:=Zh hb4;clear hb4
 go_wp2_with fail
 with_reducible refine (HKN.out w4 HB4.out (by omega)).mono ?_
 rintro r w5 ⟨rfl,hb5⟩;have HB5:=Zh (Zb HB4.out hb5);clear hb5
 go_wp2_with fail
 with_reducible refine (HNQ.out w5 HB5.out).mono ?_
 rintro r w6 ⟨qb,Q,cq,mb,rfl,hq,hm,hmb,hb6⟩;have HQ6:=Zh hq;have HM6:=Zh hm;have HMB:=Zh hmb;have HB6:=Zh (Zb HB5.out hb6);clear hq hm hmb hb6 HNQ
 go_wp2_with fail
 (refine Qak ?_;intro w7 hw7)
 have hb7:Below w6.heap.size w6 w7:=by rw [hw7];exact Qah
 obtain ⟨tb,htb⟩:∃ tb,tb=w6.heap.size:=⟨_,rfl⟩;have hT7:TbW w7 mb tb ns nt []:=by rw [hw7,htb];exact TbW.new _ HM6.out.lt
 have hz7:w6.heap.size<w7.heap.size:=by rw [hw7];simp
 have hml:=HM6.out.lt
 have H7:=Zh (show ∃ (i n:Nat) (G:Nat→Prop) (f:Nat→Nat→Option Value) (rows:List (List Int)),i≤ns∧Value.int .i64 0=.int .i64 i∧rows.length=i∧MR (msk w7 G) qb g o N ls TA nt ct tl CA NC cC cl Q ls.length cq mb∧((∀ b,G b→b<w7.heap.size)∧¬G mb∧¬G tb)∧MpQ w7 mb n f∧n≤i*16384∧MpC w7 G N.ar ls f∧TbW w7 mb tb ns nt rows∧(∀ (k:Nat) (s:Int),k<i→sl[k]?=some s→∃ row,rows[k]?=some row∧Qgm N s.toNat tl row)∧Below w.heap.size w w7 from
  ⟨0,0,_,_,[],Nat.zero_le _,rfl,rfl,HQ6.out.le (Qbf.msk (Qbf.below hb7)),⟨fun b hb=>by have:=hb.1;omega,fun h=>h.2 rfl,fun h=>by have:=h.1;omega⟩,HM6.out.below hb7,by omega,(fun i k u hu=>by cases hu),hT7,(fun k s hk=>by omega),Zb HB6.out hb7⟩)
 have HTB:=Zh (show w.heap.size≤tb∧w.heap.size≤mb from ⟨by rw [htb];exact HB6.out.size,Nat.le_trans HB5.out.size HMB.out⟩)
 rw [←htb];clear hw7 hb7 hT7 hz7 hml htb HQ6 HM6 HMB HB4 HB5 HB6 hmt
 go_loopw [54] (fun q W=>∃ (i n:Nat) (G:Nat→Prop) (f:Nat→Nat→Option Value) (rows:List (List Int)),i≤ns∧q=.int .i64 i∧rows.length=i∧MR (msk W G) qb g o N ls TA nt ct tl CA NC cC cl Q ls.length cq mb∧((∀ b,G b→b<W.heap.size)∧¬G mb∧¬G tb)∧MpQ W mb n f∧n≤i*16384∧MpC W G N.ar ls f∧TbW W mb tb ns nt rows∧(∀ (k:Nat) (s:Int),k<i→sl[k]?=some s→∃ row,rows[k]?=some row∧Qgm N s.toNat tl row)∧Below w.heap.size w W) (fun q _=>ns-(intOf q).toNat)
 case atStart=>exact H7.out
 case round =>
  clear H7;obtain ⟨i,n,G,f,rows,hi,rfl,hrl,hq,hG,hm,hn,hmc,ht,hrw,hb⟩:=hrel
  by_cases hlt:i<ns
  rotate_left
  · obtain rfl:i=ns:=by omega
    have i3:¬(i:Int)<(i:Int):=by omega
    have HR:=Zh (ht.rdT hrl (by omega));have HRR:=Zh hrw;have HBB:=Zh hb;clear hq hG hm hn hmc ht hrw hb
    go_wp2_with fail
    refine bodyPost_ret (v:=.tuple #[.slice (some ⟨tb,0,none⟩) i i,.nilIface]) (by simp [results,results37,go_sem]) rfl ?_;unfold Qoc;exact ⟨⟨_,rows,rfl,HR.out,fun k s hk=>HRR.out k s (by have:=(Zs hk).1;have:=HLS.out;omega) hk⟩,HBB.out⟩
  obtain ⟨sb,so,x,hSA,hx,cs0⟩:=(HSL.out wr hb).at_ hlt;obtain ⟨sn,xs,rfl,hxs⟩:=HSS.out i x hx;have HX:=Zh hx;have HXS:=Zh hxs;have HRO:=Zh (HRW.out (by first|rfl|trivial) wr qb Q cq mb sn xs G n f hq hG.2.1 hG.1 hm (by omega) hmc hxs HTS.out (by omega))
  have i3:(i:Int)<(ns:Int):=by omega
  have i4:(0:Int)≤(i:Int):=by omega
  have HQ:=Zh hq;have HG:=Zh hG;have HN:=Zh hn;have HT:=Zh ht;have HRR:=Zh hrw;have HBB:=Zh hb;have HML:=Zh hm.lt;have HRL:=Zh hrl;subst hSA;clear hq hG hm hn hmc ht hrw hb hx hxs
  go_wp2_with fail
  with_reducible refine HRO.out.mono ?_
  rintro e w8 ⟨rb,n',f',row,rfl,hrq,hrb,hge,hm8,hn8,hmc8,hnx⟩;have ht8:=HT.out.nx hnx;obtain ⟨⟨ov,t0⟩,t1⟩:=ht8.cell hlt;have hlr:row.length=nt:=by rw [hrq.1];exact HLT.out
  have hm1:=HML.out;have ht1:=HT.out.lt;have hsz:=hnx.size;have hrt:=hrb.lt;have hng:¬G2 G wr w8 tb:=fun h=>h.elim HG.out.2.2 (fun h=>by omega)
  have hngm:¬G2 G wr w8 mb:=fun h=>h.elim HG.out.2.1 (fun h=>by omega)
  have HRD:=Zh (HDS.out (by first|rfl|trivial) sn xs row HXS.out hrq)
  have HK:=Zh (show Qbf (G2 G wr w8) w8 (w8.setCell ⟨tb,i,none⟩ (.slice (some ⟨rb,0,none⟩) nt nt)) from Qbf.set _ _ _ _ hng)
  have HQ9:=Zh ((HQ.out.le (G2.le hnx HG.out.2.1)).le (Qbf.msk HK.out));have HM9:=Zh (hm8.set (g:=tb) (i:=i) HT.out.ne (.slice (some ⟨rb,0,none⟩) nt nt));have HC9:=Zh (hmc8.le (Qbf.msk HK.out));have HG9:=Zh (show (∀ b,G2 G wr w8 b→b<w8.heap.size)∧¬G2 G wr w8 mb∧¬G2 G wr w8 tb from ⟨fun b hb=>hb.elim (fun h=>by have:=HG.out.1 b h;omega) (fun h=>h.2),hngm,hng⟩)
  have HT9:=Zh (show TbW (w8.setCell ⟨tb,i,none⟩ (.slice (some ⟨rb,0,none⟩) nt nt)) mb tb ns nt (rows ++[row]) from HRL.out▸ht8.put hrb hlr (by omega) (by omega) (by have:=HRL.out;omega))
  have HB9:=Zh (show Below w.heap.size w (w8.setCell ⟨tb,i,none⟩ (.slice (some ⟨rb,0,none⟩) nt nt)) from (HBB.out.trans (hnx.bel _ HTB.out.2)).setCell (by simp only;exact HTB.out.1) _)
  have HN9:=Zh (show n'≤(i+1)*16384 by have:=HN.out;omega)
  have HR9:=Zh (show ∀ (k:Nat) (s:Int),k<i+1→sl[k]?=some s→∃ r,(rows ++[row])[k]?=some r∧Qgm N s.toNat tl r from fun k s hk hs=>by
   by_cases e:k<i
   · obtain ⟨r,h1,h2⟩:=HRR.out k s e hs
     exact ⟨r,by rw [List.getElem?_append_left (by have:=HRL.out;omega)];exact h1,h2⟩
   · obtain rfl:k=i:=by omega
     rw [HX.out] at hs
     cases hs
     exact ⟨row,by rw [List.getElem?_append_right (by have:=HRL.out;omega),HRL.out,Nat.sub_self];rfl,HRD.out⟩)
  clear hrq hrb hge hm8 hn8 hmc8 hnx ht8 hlr hng hngm hm1 ht1 hsz hrt HRO
  go_wp2_with fail
  go_roundw
  case rel=>exact ⟨i+1,n',_,f',_,by omega,by go_num,by rw [List.length_append,HRL.out];rfl,HQ9.out,⟨fun b hb=>by simpa [World.setCell] using HG9.out.1 b hb,HG9.out.2⟩,HM9.out,HN9.out,HC9.out,HT9.out,HR9.out,HB9.out⟩
  case measure=>simp [intOf];omega
theorem Qfy {l:List Int}{i:Nat}{x:Int} (h:l[i]?=some x) (g:(Qbj l i).1<0∨x<(Qbj l i).2):Qbj l (i+1)=((i:Int),x):=by
 have e:l.getD i 0=x:=by rw [List.getD_eq_getElem?_getD,h];rfl
 unfold Qbj;rw [e,if_pos g]
theorem Qkv {l:List Int}{i:Nat}{x:Int} (h:l[i]?=some x) (g:¬(Qbj l i).1<0) (g2:¬x<(Qbj l i).2):Qbj l (i+1)=Qbj l i:=by
 have e:l.getD i 0=x:=by rw [List.getD_eq_getElem?_getD,h];rfl
 conv=>lhs;unfold Qbj
 rw [e,if_neg (by omega)]
set_option maxHeartbeats 2000000 in
theorem Qpf (A:Option Addr)(n c:Nat)(l:List Int)(w:World)(h:RdI w A n l) (hl:∀ (i:Nat) (v:Int),l[i]?=some v→0≤v∧v≤1152921504606846976) (hn:n≤1000000) :
 Calls prog 89 #[.slice A n c] w fun e w'=>e=.returned (.tuple #[.int .i64 (Qbj l l.length).1,.int .i64 (Qbj l l.length).2])∧w=w':=by
 have HL:=Zh h;have HB:=Zh hl;have HLN:=Zh h.1;have HBD:=Zh (Qki hl);clear h hl
 go_enter func89,ntmps89
 go_wp2_with fail
 go_loopw [4,5,11] (fun p z q W=>∃ i:Nat,i≤n∧q=.int .i64 i∧W=w∧p=.int .i64 (Qbj l i).1∧z=.int .i64 (Qbj l i).2) (fun _ _ q _=>n-(intOf q).toNat)
 case atStart=>exact ⟨0,Nat.zero_le _,rfl,rfl,rfl,rfl⟩
 case round =>
  obtain ⟨i,hi,rfl,rfl,rfl,rfl⟩:=hrel
  by_cases hlt:i<n
  rotate_left
  · obtain rfl:n=i:=by omega
    have i1:¬(n:Int)<(n:Int):=by omega
    go_wp2_with fail
    refine bodyPost_ret (v:=.tuple #[.int .i64 (Qbj l n).1,.int .i64 (Qbj l n).2]) (by simp [results,results89,go_sem]) rfl ?_;exact ⟨by rw [HLN.out],rfl⟩
  obtain ⟨b0,o0,a,rfl,ha,ca⟩:=HL.out.at_ hlt;have i1:(i:Int)<(n:Int):=by omega
  have i2:(0:Int)≤(i:Int):=by omega
  have hab:=HB.out i a ha;have HA:=Zh ha;obtain ⟨p,hp⟩:∃ p,p=(Qbj l i).1:=⟨_,rfl⟩;obtain ⟨z,hz⟩:∃ z,z=(Qbj l i).2:=⟨_,rfl⟩;have HPZ:=Zh (show (Qbj l i).1=p∧(Qbj l i).2=z from ⟨hp.symm,hz.symm⟩)
  have HHL:=Zh (Qco wr a hab.1 hab.2);rw [←hp,←hz];clear ha hp hz hab
  by_cases h1:p<0
  · have HN:=Zh (Qfy HA.out (.inl (by rw [HPZ.out.1];exact h1)))
    go_wp2_with fail
    with_reducible refine HHL.out.mono ?_
    rintro r w' ⟨rfl,rfl⟩
    go_wp2_with fail
    go_roundw
    case rel=>exact ⟨i+1,by omega,by go_num,by first|rfl|trivial,by rw [HN.out],by rw [HN.out]⟩
    case measure=>simp [intOf];omega
  by_cases h2:a<z
  · have HN:=Zh (Qfy HA.out (.inr (by rw [HPZ.out.2];exact h2)))
    go_wp2_with fail
    with_reducible refine HHL.out.mono ?_
    rintro r w' ⟨rfl,rfl⟩
    go_wp2_with fail
    go_roundw
    case rel=>exact ⟨i+1,by omega,by go_num,by first|rfl|trivial,by rw [HN.out],by rw [HN.out]⟩
    case measure=>simp [intOf];omega
  · have HN:=Zh (Qkv HA.out (by rw [HPZ.out.1];exact h1) (by rw [HPZ.out.2];exact h2))
    go_wp2_with fail
    with_reducible refine HHL.out.mono ?_
    rintro r w' ⟨rfl,rfl⟩
    go_wp2_with fail
    go_roundw
    case rel=>exact ⟨i+1,by omega,by go_num,by first|rfl|trivial,by rw [HN.out,HPZ.out.1],by rw [HN.out,HPZ.out.2]⟩
    case measure=>simp [intOf];omega
set_option maxHeartbeats 2000000 in
theorem Qpz (A:Option Addr)(n c:Nat)(l:List Int)(w:World)(h:RdI w A n l) (hl:∀ (i:Nat) (v:Int),l[i]?=some v→0≤v∧v≤1152921504606846976) (hn:n≤1000000) :
 Calls prog 90 #[.slice A n c] w fun e w'=>e=.returned (.tuple #[.int .i64 (Qbj l l.length).1,.int .i64 (Qbj l l.length).2])∧w=w':=by
 have HL:=Zh h;have HB:=Zh hl;have HLN:=Zh h.1;clear h hl
 go_enter func90,ntmps90
 go_wp2_with fail
 go_loopw [4,5,6] (fun p z q W=>∃ i:Nat,i≤n∧q=.int .i64 i∧W=w∧p=.int .i64 (Qbj l i).1∧z=.int .i64 (Qbj l i).2) (fun _ _ q _=>n-(intOf q).toNat)
 case atStart=>exact ⟨0,Nat.zero_le _,rfl,rfl,rfl,rfl⟩
 case round =>
  obtain ⟨i,hi,rfl,rfl,rfl,rfl⟩:=hrel
  by_cases hlt:i<n
  rotate_left
  · obtain rfl:n=i:=by omega
    have i1:¬(n:Int)<(n:Int):=by omega
    go_wp2_with fail
    refine bodyPost_ret (v:=.tuple #[.int .i64 (Qbj l n).1,.int .i64 (Qbj l n).2]) (by simp [results,results90,go_sem]) rfl ?_;exact ⟨by rw [HLN.out],rfl⟩
  obtain ⟨b0,o0,a,rfl,ha,ca⟩:=HL.out.at_ hlt;have i1:(i:Int)<(n:Int):=by omega
  have i2:(0:Int)≤(i:Int):=by omega
  have hab:=HB.out i a ha;have HA:=Zh ha;obtain ⟨p,hp⟩:∃ p,p=(Qbj l i).1:=⟨_,rfl⟩;obtain ⟨z,hz⟩:∃ z,z=(Qbj l i).2:=⟨_,rfl⟩;have HPZ:=Zh (show (Qbj l i).1=p∧(Qbj l i).2=z from ⟨hp.symm,hz.symm⟩)
  have HHL:=Zh (Qfw a wr hab.1 hab.2);rw [←hp,←hz];clear ha hp hz hab
  by_cases h1:p<0
  · have HN:=Zh (Qfy HA.out (.inl (by rw [HPZ.out.1];exact h1)))
    go_wp2_with fail
    with_reducible refine HHL.out.mono ?_
    rintro r w' ⟨rfl,rfl⟩
    go_wp2_with fail
    go_roundw
    case rel=>exact ⟨i+1,by omega,by go_num,by first|rfl|trivial,by rw [HN.out],by rw [HN.out]⟩
    case measure=>simp [intOf];omega
  by_cases h2:a<z
  · have HN:=Zh (Qfy HA.out (.inr (by rw [HPZ.out.2];exact h2)))
    go_wp2_with fail
    with_reducible refine HHL.out.mono ?_
    rintro r w' ⟨rfl,rfl⟩
    go_wp2_with fail
    with_reducible refine HHL.out.mono ?_
    rintro r w' ⟨rfl,rfl⟩
    go_wp2_with fail
    go_roundw
    case rel=>exact ⟨i+1,by omega,by go_num,by first|rfl|trivial,by rw [HN.out],by rw [HN.out]⟩
    case measure=>simp [intOf];omega
  · have HN:=Zh (Qkv HA.out (by rw [HPZ.out.1];exact h1) (by rw [HPZ.out.2];exact h2))
    go_wp2_with fail
    with_reducible refine HHL.out.mono ?_
    rintro r w' ⟨rfl,rfl⟩
    go_wp2_with fail
    go_roundw
    case rel=>exact ⟨i+1,by omega,by go_num,by first|rfl|trivial,by rw [HN.out,HPZ.out.1],by rw [HN.out,HPZ.out.2]⟩
    case measure=>simp [intOf];omega
def MnrP (w:World)(N:Qap)(s:Int)(tl:List Int) (b:Option (ByteArray×Int×Int)) (e:Ending) (w':World):Prop :=
 (match b with|none=>∃ row,e=.returned (.tuple #[.int .i64 (Qif row).1,.int .i64 (Qif row).2,.nilIface])∧Qgm N s.toNat tl row|some (p,k,c)=>∃ v,e=.returned (.tuple #[.int .i64 0,.int .i64 0,v])∧Qcl w' v [(p,k)] c)∧Below w.heap.size w w'
set_option maxHeartbeats 2000000 in
theorem Qjy (w:World)(g o:Nat)(N:Qap) (ls:List (List Int)) (CA:Option Addr) (NC cC S:Nat) (cl:List Int) (TA:Option Addr) (nt ct:Nat) (tl:List Int) (s:Int) (hg:Qfv w g N) (ho:Qgy w o N.ar ls) (hc:RdI w CA NC cl) (ht:RdI w TA nt tl) (hok:Qaz N) (hP:Qbn N.vs.length ls) (hS:S=Qcd (Qaf N.ar ls)) (hA:NC=S→Qee N ls cl) (hcc:NC≤cC∧cC≤9223372036854775807) (hSm:S≤1000000000) :
 Calls prog 31 #[.pointer (some ⟨g,0,none⟩),.pointer (some ⟨o,0,none⟩),.slice CA NC cC,.int .i64 s,.slice TA nt ct] w (MnrP w N s tl (Qcs nt NC S N.ar.length s tl)):=by
 have HR:=Zh (Qfu w g o N ls CA NC cC S cl TA nt ct tl s hg ho hc ht hok hP hS hA hcc hSm);have HOK:=Zh hok;have HLT:=Zh ht.1
 have HBA:=Zh (fun (hb:Qcs nt NC S N.ar.length s tl=none)=>show ∀ (i:Nat) (t:Int),tl[i]?=some t→∃ a:Nat,t=(a:Int) from fun i t hi=>by
  unfold Qcs at hb
  split at hb
  · cases hb
  split at hb
  · cases hb
  split at hb
  · cases hb
  have:=Qdx (Option.map_eq_none_iff.1 hb) i t hi;exact ⟨t.toNat,by omega⟩)
 have HNT:=Zh (show Qcs nt NC S N.ar.length s tl=none→nt≤1000000 from fun hb=>by
  unfold Qcs at hb
  split at hb
  · cases hb
  · omega)
 obtain ⟨bd,hbd⟩:∃ bd,bd=Qcs nt NC S N.ar.length s tl:=⟨_,rfl⟩;have HBD:=Zh hbd;rw [←hbd] at HR ⊢;clear hg ho hc ht hok hP hS hA hcc hSm hbd
 cases bd with
 | some x =>
  obtain ⟨p,k,c⟩:=x;unfold MnrP;unfold Qlg at HR
  go_enter func31,ntmps31
  go_wp2_with fail
  with_reducible refine HR.out.mono ?_
  rintro r w5 ⟨⟨v,rfl,hc5⟩,hb5⟩;obtain ⟨tv,xv,rfl⟩:=Qam hc5;have HC:=Zh hc5;clear hc5
  go_wp2_with fail
  refine bodyPost_ret (v:=.tuple #[.int .i64 0,.int .i64 0,.iface tv xv]) (by simp [results,results31,go_sem]) rfl ?_;exact ⟨⟨_,rfl,HC.out⟩,hb5⟩
 | none =>
  unfold MnrP;unfold Qlg at HR
  go_enter func31,ntmps31
  go_wp2_with fail
  with_reducible refine HR.out.mono ?_
  rintro r w5 ⟨⟨rb,row,rfl,hrb,hrd,_⟩,hb5⟩;have hbdr:=hrd.bd HOK.out (HBA.out HBD.out.symm);have HLS:=Zh (Qpf (some ⟨rb,0,none⟩) nt nt row w5 (hrb.rdI (by rw [hrd.1];exact HLT.out)) hbdr (HNT.out HBD.out.symm));have hlb:=Qki hbdr row.length (Zn _);obtain ⟨p,hp⟩:∃ p,p=(Qbj row row.length).1:=⟨_,rfl⟩;obtain ⟨z,hz⟩:∃ z,z=(Qbj row row.length).2:=⟨_,rfl⟩;have HRD:=Zh hrd;have HNR:=Zh (show Qif row=if z=1152921504606846976 then (-1,1152921504606846976) else (p,z) by unfold Qif;rw [←hz];split <;> simp [hp,hz])
  have HB5:=Zh hb5;rw [←hp,←hz] at HLS;rw [←hz] at hlb;have hz9:=hlb.2.2;clear hbdr hlb hp hz hrd hrb hb5
  go_wp2_with fail
  with_reducible refine HLS.out.mono ?_
  rintro r w' ⟨rfl,rfl⟩
  by_cases h1:z=1152921504606846976
  · have e1:(1152921504606846976:Int)≤z:=by omega
    go_wp2_with fail
    refine bodyPost_ret (v:=.tuple #[.int .i64 (-1),.int .i64 1152921504606846976,.nilIface]) (by simp [results,results31,go_sem]) rfl ?_;exact ⟨⟨row,by rw [HNR.out,if_pos h1],HRD.out⟩,HB5.out⟩
  · have e1:¬(1152921504606846976:Int)≤z:=by omega
    go_wp2_with fail
    refine bodyPost_ret (v:=.tuple #[.int .i64 p,.int .i64 z,.nilIface]) (by simp [results,results31,go_sem]) rfl ?_;exact ⟨⟨row,by rw [HNR.out,if_neg h1],HRD.out⟩,HB5.out⟩
set_option maxHeartbeats 1000000 in
theorem Qez (A B:Option Addr)(n m c d:Nat)(l l2:List Int)(w:World)(h:RdI w A n l)(h2:RdI w B m l2)(hn:n≤1000000000)(hm:m≤1000000000) :
 Calls prog 35 #[.slice A n c,.slice B m d] w fun e w'=>e=.returned (.bool (decide (l=l2)))∧∃ k,w'=w.drewN k:=by
 have HR:=Zh h;have HR2:=Zh h2;have HL:=Zh h.1;have HL2:=Zh h2.1;clear h h2
 by_cases hnm:n=m
 rotate_left
 · have e1:((n:Int) != (m:Int))=true:=by simp;omega
   have e2:((n:Int) == (m:Int))=false:=by simp;omega
   have HD:=Zh (show decide (l=l2)=false from decide_eq_false (fun e=>hnm (by rw [←HL.out,←HL2.out,e])))
   go_enter func35,ntmps35
   go_wp2_with fail
   go_ret
   exact ⟨Qay HD.out.symm,0,rfl⟩
 subst hnm
 go_enter func35,ntmps35
 go_wp2_with fail
 go_loopw [5] (fun q W=>(∃ k,W=w.drewN k)∧∃ i:Nat,i≤n∧q=.int .i64 i∧∀ j,j<i→l[j]?=l2[j]?) (fun q _=>n-(intOf q).toNat)
 case atStart=>exact ⟨⟨0,rfl⟩,0,Nat.zero_le _,rfl,fun _ h=>absurd h (Nat.not_lt_zero _)⟩
 case round =>
  obtain ⟨hd,i,hi,rfl,hall⟩:=hrel;have HD:=Zh hd;have HA:=Zh hall;clear hall
  by_cases hlt:i<n
  · obtain ⟨b,o,x,rfl,hx,hc⟩:=HR.out.at_ hlt
    obtain ⟨b',o',y,rfl,hy,hc'⟩:=HR2.out.at_ hlt;have hc1:wr.cell? ⟨b,o+i,none⟩=some (.int .i64 x):=by obtain ⟨k,rfl⟩:=hd;exact hc
    have hc2:wr.cell? ⟨b',o'+i,none⟩=some (.int .i64 y):=by obtain ⟨k,rfl⟩:=hd;exact hc'
    have HX:=Zh hx;have HY:=Zh hy;have i1:(0:Int)≤(i:Int):=by omega
    have i2:(i:Int)<(n:Int):=by omega
    clear hx hy hc hc' hd
    by_cases e:x=y
    · subst e
      go_wp2_with fail
      go_quiet (fail)
      go_wp2_with fail
      go_roundw
      case rel =>
       obtain ⟨k,e⟩:=HD.out;refine ⟨⟨k+nq,by rw [e,World.drewN_drewN]⟩,i+1,by omega,by go_num,fun j hj=>?_⟩
       by_cases ej:j=i
       · subst ej
         rw [HX.out,HY.out]
       · exact HA.out j (by omega)
      case measure=>simp [intOf];omega
    · have e1:(x != y)=true:=by simpa using e
      have e2:(x == y)=false:=by simpa using e
      have HN:=Zh (show decide (l=l2)=false from decide_eq_false (fun ee=>by
       have:=HX.out;rw [ee,HY.out] at this;exact e (Option.some.inj this).symm))
      have HE:=Zh e;clear e
      go_wp2_with fail
      go_quiet (fail)
      go_wp2_with fail
      go_ret
      obtain ⟨k,e⟩:=HD.out;exact ⟨Qay HN.out.symm,k+nq,by rw [e,World.drewN_drewN]⟩
  · obtain rfl:n=i:=by omega
    have HE:=Zh (show decide (l=l2)=true from decide_eq_true (List.ext_getElem? (fun j=>by
     rcases Nat.lt_or_ge j n with h|h
     · exact HA.out j h
     · rw [List.getElem?_eq_none (by rw [HL.out];exact h),List.getElem?_eq_none (by rw [HL2.out];exact h)])))
    clear hd
    go_wp2_with fail
    go_ret
    exact ⟨Qay HE.out.symm,HD.out⟩
end Go.Proofs.YteaoiabikjnkeaaGreatDoor
