/- Parts of the proof: Ft, Tl, MdK, MdX, Gnt, MdM, Ch1, Ch2, Ch3, MdN. -/
import Derived.Test.YthoagdpakddbdaaGreatDoorL14
import Derived.Deep.RegionHeld3
import Derived.Deep.DrawnRows
import Derived.Maps.OwnSet
import Derived.Maps.OwnOps
import Derived.DeepKeys3
namespace Go.Proofs.YthoagdpakddbdaaGreatDoor
open Go.RowKit Go.Proofs.Tryz
def RdW (w:World)(A:Option Addr)(n:Nat) (l:List (ByteArray×Int)):Prop :=
 l.length=n∧∀ i x,l[i]?=some x→∃ b o,A=some ⟨b,o,none⟩∧w.cell? ⟨b,o+i*2,none⟩=some (.string x.1)∧w.cell? ⟨b,o+i*2+1,none⟩=some (.int .i64 x.2)
theorem RdW.below {w w':World}{A:Option Addr}{n:Nat} {l:List (ByteArray×Int)} (h:RdW w A n l) (hb:Below w.heap.size w w'):RdW w' A n l :=
 ⟨h.1,fun i x hx=>by obtain ⟨b,o,e,hc,hd⟩:=h.2 i x hx;exact ⟨b,o,e,Zc hb (Zn _) hc,Zc hb (Zn _) hd⟩⟩
def Wrg (w:World)(v:Value) (ps:List (ByteArray×Int)) (c:Int):Prop:=∃ A n m,v=.agg #[.slice A n m,.int .i64 c]∧RdW w A n ps∧n≤1000000
theorem Qwn (s:ByteArray)(k c:Int)(w:World):Calls prog 14 #[.string s,.int .i64 k,.int .i64 c] w fun e w'=>∃ v,e=.returned v∧Wrg w' v [(s,k)] c∧Below w.heap.size w w':=by
 go_enter func14,ntmps14
 go_wp2
 refine bodyPost_ret (v:=.agg #[.slice (some ⟨w.heap.size+1,0,none⟩) 1 1,.int .i64 c]) (by simp [results,results14,go_sem]) rfl ?_;refine ⟨_,rfl,⟨_,1,1,rfl,⟨rfl,fun i x hx=>?_⟩,by omega⟩,Qaf⟩
 match i,hx with
 | 0,hx=>cases hx;exact ⟨_,_,rfl,by simp,by simp⟩
 | i+1,hx=>simp at hx
end Go.Proofs.YthoagdpakddbdaaGreatDoor
namespace Go.Proofs.YthoagdpakddbdaaGreatDoor
open Go.RowKit Go.Extern.Stop Go.Stop Go.Extern Go.Proofs.Tryz
theorem Qec (t:Addr)(p:Nat)(w:World):Below w.heap.size w (asX t p w):=Qaf
theorem as_fault (b o g:Nat)(old:Value)(w:World)(hg:w.cell? ⟨0,0,none⟩=some Qmv)(ht0:w.cell? ⟨g,0,none⟩=some old)(hf0:w.frozen? ⟨g,0,none⟩=false) :
 Calls prog 44 #[fltV b o,.iface 109 (.pointer (some ⟨g,0,none⟩))] w fun ev w'=>ev=.returned (.bool true)∧w'.cell? ⟨g,0,none⟩=some (.pointer (some ⟨b,o,none⟩))∧Below g w w' :=
 (as_hitF ⟨b,o,none⟩ ⟨g,0,none⟩ old w hg ht0 hf0).mono fun e w' ⟨he,hw⟩=>by
  have hlt:=Qae ht0;have hb:Below g w (asX ⟨g,0,none⟩ 109 w):=(Qec _ _ w).mono (Nat.le_of_lt hlt);have hb2:Below g w ((asX ⟨g,0,none⟩ 109 w).alloc (.cells #[.pointer (some ⟨b,o,none⟩)] 99)):=hb.alloc (Yx (Nat.le_of_lt hlt) (Qec _ _ w).size) _;refine ⟨he,?_,?_⟩
  · rw [hw]
    have hc:((asX ⟨g,0,none⟩ 109 w).alloc (.cells #[.pointer (some ⟨b,o,none⟩)] 99)).cell? ⟨g,0,none⟩=some old :=
     Zc (Bel.alloc (Qec ⟨g,0,none⟩ 109 w)) (Zn _) ht0
    exact World.cell?_setCell_same _ _ _ hc
  · rw [hw];exact hb2.setCell (Zn _) _
theorem as_errno (c:Int)(g:Nat)(old:Value)(w:World)(hg:w.cell? ⟨0,0,none⟩=some Qmv)(ht0:w.cell? ⟨g,0,none⟩=some old)(hf0:w.frozen? ⟨g,0,none⟩=false) :
 Calls prog 44 #[Qrm c,.iface 112 (.pointer (some ⟨g,0,none⟩))] w fun ev w'=>ev=.returned (.bool true)∧w'.cell? ⟨g,0,none⟩=some (.int .i64 c)∧Below g w w' :=
 (as_hitE c ⟨g,0,none⟩ old w hg ht0 hf0).mono fun e w' ⟨he,hw⟩=>by
  have hlt:=Qae ht0;have hb:Below g w (asX ⟨g,0,none⟩ 112 w):=(Qec _ _ w).mono (Nat.le_of_lt hlt);have hb2:Below g w ((asX ⟨g,0,none⟩ 112 w).alloc (.cells #[.int .i64 c] 100)):=hb.alloc (Yx (Nat.le_of_lt hlt) (Qec _ _ w).size) _;refine ⟨he,?_,?_⟩
  · rw [hw]
    have hc:((asX ⟨g,0,none⟩ 112 w).alloc (.cells #[.int .i64 c] 100)).cell? ⟨g,0,none⟩=some old :=
     Zc (Bel.alloc (Qec ⟨g,0,none⟩ 112 w)) (Zn _) ht0
    exact World.cell?_setCell_same _ _ _ hc
  · rw [hw];exact hb2.setCell (Zn _) _
theorem as_none (c:Int)(g:Nat)(w:World)(hg:w.cell? ⟨0,0,none⟩=some Qmv) :
 Calls prog 44 #[Qrm c,.iface 109 (.pointer (some ⟨g,0,none⟩))] w fun ev w'=>ev=.returned (.bool false)∧Below w.heap.size w w' :=
 (as_miss c ⟨g,0,none⟩ w hg).mono fun e w' ⟨he,hw⟩=>⟨he,by rw [hw];exact Qec _ _ w⟩
set_option maxHeartbeats 1000000 in
theorem Qyr (A:Option Addr)(n c:Nat)(w:World) :
 Calls prog 13 #[.nilIface,.agg #[.slice A n c,.int .i64 0]] w fun e w'=>e=.returned (.bool true)∧Below w.heap.size w w':=by
 go_enter func13,ntmps13
 go_wp2
 go_ret
 exact ⟨rfl,Qaf⟩
theorem Qvu {w:World}{v:Value} {ps:List (ByteArray×Int)} {c:Int} {k:Nat} {p:ByteArray×Int} (hk:ps[k]?=some p) (h:Qcm w v (ps.drop k) c) :
 ∃ b o u,v=fltV b o∧w.cell? ⟨b,o,none⟩=some (.string p.1)∧w.cell? ⟨b,o+1,none⟩=some (.int .i64 p.2)∧w.cell? ⟨b,o+2,none⟩=some u∧Qcm w u (ps.drop (k+1)) c:=by
 have hlt:=(Zs hk).1;rw [List.drop_eq_getElem_cons hlt] at h;have e:ps[k]=p:=(Zs hk).2;rw [e] at h;exact h
attribute [local go_sem ↓] Go.wp_at_zero Go.wp_at_succ
set_option maxHeartbeats 4000000 in
theorem Qpn (v:Value)(A:Option Addr)(n c:Nat) (ps:List (ByteArray×Int)) (c0:Int) (w:World) (h:Qcm w v ps c0) (hr:RdW w A n ps) (hc0:c0≠0) (hg:w.cell? ⟨0,0,none⟩=some Qmv) (hn:n≤4000000000000000000) :
 Calls prog 13 #[v,.agg #[.slice A n c,.int .i64 c0]] w fun e w'=>e=.returned (.bool true)∧Below w.heap.size w w':=by
 have HI:∀ (W:World),Below w.heap.size w W→Calls prog 43 #[v,Qrm c0] W fun e w'=>e=.returned (.bool true)∧w'=W:=fun W hb=>errorsIs v ps c0 W (Qcm.below hb h)
 have HI':=Zh HI;clear HI;obtain ⟨tvv,xv,hv⟩:=Qcb h;have hlt0:=Qae hg;have HC:=Zh hc0;have HCH:=Zh h;subst hv;clear h
 go_enter func13,ntmps13
 go_wp2_with fail
 with_reducible refine (HI'.out _ Qaf).mono ?_
 rintro e w' ⟨rfl,rfl⟩;clear HI'
 go_wp2_with fail
 (refine Qag ?_;intro w1 hw1)
 have hb1:Below w.heap.size w w1:=by rw [hw1];exact Qaf
 have hx0:w1.cell? ⟨w.heap.size,0,none⟩=some (.slice A n c):=by rw [hw1];simp
 have hx1:w1.cell? ⟨w.heap.size,1,none⟩=some (.int .i64 c0):=by rw [hw1];simp
 have hg1:w1.cell? ⟨0,0,none⟩=some Qmv:=Zc hb1 (Zn _) hg;have hr1:=hr.below hb1;have hch:=Qcm.below hb1 HCH.out;have HCH1:=Zh hch;clear hch HCH hr hw1 hg
 go_loopw [0,5] (fun u i W=>∃ (k:Nat),k≤n∧i=.int .i64 k∧Qcm W u (ps.drop k) c0∧Below w1.heap.size w1 W) (fun _ i _=>n-(intOf i).toNat)
 case atStart=>exact ⟨0,Nat.zero_le _,rfl,HCH1.out,Zr _ _⟩
 case round =>
  obtain ⟨k,hk,rfl,hch,hbl⟩:=hrel;have y0:=Zc hbl (Zn _) hx0
  by_cases hlt:k<n
  · have hlen:=hr1.1
    obtain ⟨p,hp⟩:∃ p,ps[k]?=some p:=⟨ps[k],Zg (by omega)⟩;obtain ⟨pb,po,rfl,hp1,hp2⟩:=hr1.2 k p hp;obtain ⟨b,o,u,rfl,hc1,hc2,hc3,hc4⟩:=Qvu hp hch;obtain ⟨tu,xu,hu⟩:=Qcb hc4;have HP:=Zh hp;have H4:=Zh hc4;have z:=hbl.size;clear hp hch hlen hc4;subst hu;obtain ⟨s,q0⟩:=p
    go_wp2_with fail
    (refine Qag ?_;intro W5 hW5)
    have hb5:Below w1.heap.size w1 W5:=by rw [hW5];exact Qaf
    have hbr:Below wr.heap.size wr W5:=by rw [hW5];exact Qaf
    have ht5:W5.cell? ⟨wr.heap.size,0,none⟩=some (.pointer none):=by rw [hW5];simp
    have hf5:W5.frozen? ⟨wr.heap.size,0,none⟩=false:=by rw [hW5];simp
    have hg5:=Zc hb5 (Zn _) hg1;have hz5:=Qae ht5
    have HA:∀ V,Below W5.heap.size W5 V→Calls prog 44 #[fltV b o,.iface 109 (.pointer (some ⟨wr.heap.size,0,none⟩))] V fun ev w'=>ev=.returned (.bool true)∧w'.cell? ⟨wr.heap.size,0,none⟩=some (.pointer (some ⟨b,o,none⟩))∧Below wr.heap.size W5 w':=fun V hV =>
     (as_fault b o wr.heap.size _ V (Zc hV (Zn _) hg5) (Zc hV (Zn _) ht5) ((Below.frozenOf hV hz5).trans hf5)).mono fun _ _ ⟨h1,h2,h3⟩=>⟨h1,h2,(hV.mono (Nat.le_of_lt hz5)).trans h3⟩
    have HA':=Zh HA;clear HA;clear hW5 hf5 hg5;refine wp_region_held_drew (S:=fun _=>True) (by kernel_rfl) trivial (fun _=>?_);refine tz 0 31 ?_;refine tz 1 32 ?_;refine Zk 2 (fun K hK=>?_);go_simp
    go_at_call 44
    with_reducible refine (HA'.out _ Qaf).mono ?_
    rintro e w6 ⟨rfl,ht6,hb6⟩;have hb7:Below wr.heap.size wr w6:=hbr.trans hb6;have c6:=Zc hb7 (Zn _) hc1;have d6:=Zc hb7 (Zn _) hc2;have e6:=Zc hb7 (Zn _) hc3;have y6:=Zc hb7 (Zn _) y0;have p6:=Zc hb7 (Zn _) (Zc hbl (Zn _) hp1);have q6:=Zc hb7 (Zn _) (Zc hbl (Zn _) hp2)
    go_wp2_with fail
    refine hK.out _ _ trivial (fun _=>?_);clear hK K;refine Qjv (S':=fun V=>V=w6) (fun _ _=>trivial) _ _ _ _ ?_;have i1:(0:Int)≤(k:Int):=by omega
    have i2:(k:Int)<(n:Int):=by omega
    clear hc1 hc2 hc3 y0 hp1 hp2 HA' hx1 hb5 hbr ht5 hz5;refine tz 3 34 ?_;refine tz 4 35 ?_;refine tz 5 36 ?_;refine tz 6 37 ?_;refine tz 7 38 ?_;refine tz 8 39 ?_;refine tz 9 40 ?_;refine tz 10 41 ?_;refine tz 11 42 ?_;refine tz 12 43 ?_;refine tz 13 44 ?_;refine tz 14 45 ?_;refine tz 15 46 ?_;refine tz 16 47 ?_;refine tz 17 48 ?_;refine tz 18 49 ?_;refine tz 19 50 ?_;refine tz 20 51 ?_;refine tz 21 52 ?_;refine tz 22 53 ?_;refine tz 23 54 ?_;refine tz 24 55 ?_;refine tz 25 56 ?_;refine tz 26 57 ?_;refine tz 27 58 ?_;refine tz 28 59 ?_;refine tz 29 60 ?_;refine tz 30 61 ?_;refine tz 31 62 ?_;refine tz 32 63 ?_;refine tz 33 64 ?_;refine Zd ?_
    go_wp2_with fail
    exact ⟨⟨k+1,by omega,by go_num,Qcm.below hb7 H4.out,Zb hbl hb7⟩,by simp [intOf];omega⟩
  · obtain rfl:k=n:=by omega
    rw [List.drop_of_length_le (by have:=hr1.1;omega)] at hch;unfold Qcm at hch;subst hch;have x1:=Zc hbl (Zn _) hx1;have gr:=Zc hbl (Zn _) hg1;have z:=hbl.size;clear hx0 hr1 hx1
    go_wp2_with fail
    (refine Qac ?_;intro W5 hW5)
    have hbr:Below wr.heap.size wr W5:=by rw [hW5];exact Qaf
    have ht5:W5.cell? ⟨wr.heap.size+1,0,none⟩=some (.int .i64 0):=by rw [hW5];simp
    have hf5:W5.frozen? ⟨wr.heap.size+1,0,none⟩=false:=by rw [hW5];simp
    have g5:=Zc hbr (Zn _) gr;have z5:=Qae ht5;clear hW5;with_reducible refine (as_none c0 wr.heap.size _ g5).mono ?_
    rintro e w6 ⟨rfl,hb6⟩;have hb56:=hbr.trans (hb6.mono hbr.size)
    go_wp2_with fail
    with_reducible refine (as_errno c0 (wr.heap.size+1) _ _ (Zc hb6 (Zn _) g5) (Zc hb6 (Zn _) ht5) ((Below.frozenOf hb6 z5).trans hf5)).mono ?_
    rintro e w7 ⟨rfl,ht7,hb7⟩;have hb8:Below wr.heap.size wr w7:=hb56.trans (hb7.mono (Nat.le_succ _));have x7:=Zc hb8 (Zn _) x1;clear hb6 hb7 hb56 ht5 hf5
    go_wp2_with fail
    go_ret
    exact ⟨rfl,Qaf⟩
end Go.Proofs.YthoagdpakddbdaaGreatDoor
namespace Go.Proofs.YthoagdpakddbdaaGreatDoor
open Go.RowKit Go.Extern.Stop Go.Stop Go.Extern Go.Proofs.Tryz
structure Ck (N:Qai) (l:List Chn) (ps:List (ByteArray×Int)) (c0:Int):Prop where
 long:256<l.length→ps=[((⟨#[98,97,116,99,104]⟩:ByteArray),0)]∧c0=4
 short:l.length≤256→∃ i e,Vd N l i e∧c0=e∧(e≠0→ps=[((⟨#[99,104,97,110,103,101]⟩:ByteArray),(i:Int))])
theorem ck_ex (N:Qai)(l:List Chn):∃ ps c0,Ck N l ps c0:=by
 by_cases h:l.length≤256
 · obtain ⟨i,e,hv⟩:=vd_ex N l
   exact ⟨_,e,fun h'=>by omega,fun _=>⟨i,e,hv,rfl,fun _=>rfl⟩⟩
 · exact ⟨_,_,fun _=>⟨rfl,rfl⟩,fun h'=>absurd h' h⟩
theorem Ck.ok {N:Qai}{l:List Chn} {ps:List (ByteArray×Int)} (h:Ck N l ps 0):l.length≤256∧Qcj N l:=by
 rcases Nat.lt_or_ge 256 l.length with hl|hl
 · have:=(h.long hl).2
   omega
 · obtain ⟨i,e,hv,he,_⟩:=h.short hl
   subst he;exact ⟨hl,hv.ok⟩
theorem Qcj.ck {N:Qai}{l:List Chn}(h:Qcj N l)(hl:l.length≤256):Ck N l [] 0:=⟨fun h'=>by omega,fun _=>⟨_,0,h.vd,rfl,fun h=>absurd rfl h⟩⟩
def ErrV (w:World)(v:Value) (ps:List (ByteArray×Int)) (c0:Int):Prop:=(c0=0∧v=.nilIface)∨(c0≠0∧Qcm w v ps c0)
theorem Qui {v:Value}{A:Option Addr}{n c:Nat} {ps:List (ByteArray×Int)} {c0:Int} {w:World} (h:ErrV w v ps c0) (hr:c0≠0→RdW w A n ps) (hg:w.cell? ⟨0,0,none⟩=some Qmv) (hn:n≤4000000000000000000) :
 Calls prog 13 #[v,.agg #[.slice A n c,.int .i64 c0]] w fun e w'=>e=.returned (.bool true)∧Below w.heap.size w w':=by
 rcases h with ⟨rfl,rfl⟩|⟨h0,hc⟩
 · exact Qyr A n c w
 · exact Qpn v A n c ps c0 w hc (hr h0) h0 hg hn
end Go.Proofs.YthoagdpakddbdaaGreatDoor
namespace Go.Proofs.YthoagdpakddbdaaGreatDoor
open Go.RowKit Go.Maps Go.Proofs.Tryz
abbrev Qsy:=Int×Int×Int×Int
def kAgg (k:Qsy):Value:=.agg #[.int .i64 k.1,.int .i64 k.2.1,.int .i64 k.2.2.1,.int .i64 k.2.2.2,.int .i64 0]
def kLit (k:Qsy):Lit:=.string (keyBytes [.int .i64 k.1,.int .i64 k.2.1,.int .i64 k.2.2.1,.int .i64 k.2.2.2,.int .i64 0])
def kOk (k:Qsy):Prop:=(0≤k.1∧k.1≤1000000)∧(0≤k.2.1∧k.2.1≤1000000)∧(0≤k.2.2.1∧k.2.2.1≤1000000)∧0≤k.2.2.2∧k.2.2.2≤1000000
theorem Qnu:Keyed prog 83:=Keyed.of_law (deep_law (m:=2) (by decide) (by kernel_rfl) (by kernel_rfl) (by kernel_rfl))
theorem ck_size:∃ m,Tryz.prog.types.size=m+2:=⟨Tryz.prog.types.size-2,by kernel_rfl⟩
theorem ck_type:Tryz.prog.keyType 83=true:=by kernel_rfl
theorem Qtc:Tryz.prog.cellsOf 83=5:=by kernel_rfl
theorem ck_int:Tryz.prog.cellsOf 3=1:=by kernel_rfl
theorem ck_int64:Tryz.prog.cellsOf 2=1:=by kernel_rfl
theorem ck_lits {a b c d e:Int} (ha:(Lit.int .i64 a).wf=true) (hb:(Lit.int .i64 b).wf=true) (hc:(Lit.int .i64 c).wf=true) (hd:(Lit.int .i64 d).wf=true) (he:(Lit.int .i64 e).wf=true) :
 keyOf prog 83 (.agg #[.int .i64 a,.int .i64 b,.int .i64 c,.int .i64 d,.int .i64 e])=some (.string (keyBytes [.int .i64 a,.int .i64 b,.int .i64 c,.int .i64 d,.int .i64 e])):=by
 obtain ⟨m,hm⟩:=ck_size;unfold keyOf;simp only [underlying83];rw [if_pos (by simp [ck_type,Value.formed,underlying83,Qtc]),hm];unfold Program.keyLits;simp only [underlying83,Value.cells,Qtc];rw [if_pos (by simp)];simp [Program.keyLits,underlying3,underlying2,ck_int,ck_int64,ha,hb,hc,hd,he]
theorem Qsi {k:Qsy}(h:kOk k):keyOf prog 83 (kAgg k)=some (kLit k):=by
 obtain ⟨⟨a1,a2⟩,⟨b1,b2⟩,⟨c1,c2⟩,d1,d2⟩:=h;exact ck_lits (WalkArith.wf_i64 (by omega)) (WalkArith.wf_i64 (by omega)) (WalkArith.wf_i64 (by omega)) (WalkArith.wf_i64 (by omega)) (WalkArith.wf_i64 (by omega))
theorem kLit_ne {k k':Qsy}(h:kOk k)(h':kOk k')(hne:k≠k'):kLit k≠kLit k':=fun e=>by
 have h1:=Qsi h;have h2:=Qsi h';rw [←e] at h2;have h3:=Qnu.inj h1 h2;unfold kAgg at h3
 injection h3 with h3
 injection h3 with h3
 injection h3 with a1 a2
 injection a2 with b1 b2
 injection b2 with c1 c2
 injection c2 with d1 d2
 injection a1 with _ a1
 injection b1 with _ b1
 injection c1 with _ c1
 injection d1 with _ d1
 obtain ⟨x,y,z,u⟩:=k;obtain ⟨x',y',z',u'⟩:=k';simp only at a1 b1 c1 d1;exact hne (by rw [a1,b1,c1,d1])
def MpC (W:World)(b n:Nat)(K:List Qsy):Prop :=
 ∃ D:DataW Unit,W.ownsMap prog 83 (plainElem prog 3) b n D∧IsMap D∧∀ k,kOk k→Maps.has D (kLit k)=decide (k∈K)
theorem MpC.new (w:World):MpC (w.alloc (.map #[] 0)) w.heap.size 0 [] :=
 ⟨.map [],World.ownsMap_made _ _ _ _,isMap_empty,fun k _=>by simp;rfl⟩
theorem MpC.lt {W:World}{b n:Nat}{K:List Qsy}(h:MpC W b n K):b<W.heap.size:=by
 obtain ⟨D,h1,_⟩:=h;exact h1.lt
theorem MpC.grown {W W':World}{b n:Nat}{K:List Qsy}{r:Option Nat}(h:MpC W b n K)(hg:W.grownBy W' r)(hr:r≠some b):MpC W' b n K:=by
 obtain ⟨D,h1,h2⟩:=h;exact ⟨D,h1.kept hg (fun e=>hr e.symm),h2⟩
theorem MpC.below {W W':World}{b n:Nat}{K:List Qsy}(h:MpC W b n K)(hb:Below W.heap.size W W'):MpC W' b n K:=h.grown ⟨hb.os,hb.tape,hb.output,hb.size,fun k hk _=>hb.block k hk⟩ (r:=none) (by simp)
theorem MpC.set {W:World}{b n g i:Nat}{K:List Qsy}(h:MpC W b n K)(hg:g≠b)(v:Value):MpC (W.setCell ⟨g,i,none⟩ v) b n K:=h.grown (Qab _ _ _ _) (fun e=>hg (by injection e))
theorem MpC.alloc {W:World}{b n:Nat}{K:List Qsy}(h:MpC W b n K)(o:Obj):MpC (W.alloc o) b n K:=h.below ((Zr _ _).alloc (Zn _) _)
theorem Qvh (w:World):(zeroValue 3).run prog w=.ok (.int .i64 0) w:=by kernel_rfl
section
variable {w:World} {ops:Array Oper} {rest:List Oper} {o:Oper} {a:Act} {Q:Exit→Act→World→Prop} {b n:Nat} {K:List Qsy}
theorem wpMc_upd (hg:o.guard=none)(m x v:Operand)(hop:o.op=Op.mapUpdate 198 m x v)(k:Qsy)(u:Nat) (hm:a.eval m=.map (some b)) (h:MpC w b n K) (hn:n≤1000000000) (hx:a.eval x=kAgg k) (hv:a.eval v=.int .i64 u) (hk:kOk k) (hu:u≤1000000000000)
 (hK:∀ w',MpC w' b (n+1) (k::K)→w.grownBy w' (some b)→wpList prog ops Q rest (a.put o.dst undef) w'):wpList prog ops Q (o::rest) a w:=by
 obtain ⟨D,h1,h2,h3⟩:=h;refine wpList_mapUpdate_own w hg m x v 198 hop 83 3 Qnu underlying198 _ b n D hm h1 (by unfold maxLen;omega) _ _ _ hx hv (Qsi hk) _ [] (plainElem_int underlying3 (WalkArith.wf_i64 (by omega))) (fun w' g1 g2=>hK w' ⟨_,g1,h2.put _ _,fun q hq=>?_⟩ g2);have hkl:WideAt.IsKeyLit (kLit k):=by simp [WideAt.IsKeyLit,kLit]
 by_cases e:q=k
 · subst e
   rw [has_put_same h2 hkl];simp
 · rw [has_put_other (kLit_ne hq hk e),h3 q hq]
   simp [e]
theorem wpMc_ok (hg:o.guard=none)(m x:Operand)(hop:o.op=Op.lookup 198 m x true)(k:Qsy) (hm:a.eval m=.map (some b)) (h:MpC w b n K) (hx:a.eval x=kAgg k) (hk:kOk k)
 (hK:∀ c:Int,wpList prog ops Q rest (a.put o.dst (.tuple #[.int .i64 c,.bool (decide (k∈K))])) w):wpList prog ops Q (o::rest) a w:=by
 obtain ⟨D,h1,h2,h3⟩:=h;refine wpList_lookup_own_ok_int w hg m x 198 hop 83 3 .i64 Qnu underlying198 underlying3 (Qvh w) b n D hm h1 _ _ hx (Qsi hk) (fun c hc _=>?_);rw [h3 k hk];exact hK c
end
end Go.Proofs.YthoagdpakddbdaaGreatDoor
namespace Go.Proofs.YthoagdpakddbdaaGreatDoor
open Go.RowKit Go.Proofs.Tryz
attribute [local go_sem ↓] Go.wp_at_zero Go.wp_at_succ
theorem Qex (W:World)(g:Nat)(x y z:Value)(k:Nat)(h:k≠g):(((W.setCell ⟨g,0,none⟩ x).setCell ⟨g,1,none⟩ y).setCell ⟨g,2,none⟩ z).heap[k]?=W.heap[k]?:=by
 rw [Below.heap_setCell _ _ _ k h,Below.heap_setCell _ _ _ k h,Below.heap_setCell _ _ _ k h]
theorem Qpj.rdM {W:World}{G G':Nat→Prop}{A B C:Option Addr}{n m k:Nat}{N:Qai}(h:Qpj W G A B C n m k N)(hs:∀ b,G b→G' b)(hB:∀ b,Qaa B=some b→G' b)(hC:∀ b,Qaa C=some b→G' b):Qbc (msk W G') A B C n m k N :=
 ⟨h.vs.le (Qay hs),⟨h.ar.1,fun i x hx=>by
  obtain ⟨b,o,e,h1,h2,h3⟩:=h.ar.2 i x hx;have hb:=hB b (by rw [e];rfl);exact ⟨b,o,e,Qao.2 ⟨hb,h1⟩,Qao.2 ⟨hb,h2⟩,Qao.2 ⟨hb,h3⟩⟩⟩,
  (h.ts.le (fun b _ _ hb hc=>Qao.2 ⟨hC b hb,hc⟩) (Qay hs)).rdY (fun _ _ h=>h)⟩
set_option maxHeartbeats 2000000 in
theorem Qpx (g:Nat)(N:Qai)(w:World)(h:Qgm w g N) :
 Calls prog 55 #[.pointer (some ⟨g,0,none⟩)] w fun r w'=>∃ A B C c d e,r=.returned (.agg #[.slice A N.vs.length c,.slice B N.ar.length d,.slice C N.ts.length e])∧Qbc w' A B C N.vs.length N.ar.length N.ts.length N∧(∀ b,0<N.vs.length→Qaa A=some b→w.heap.size<b)∧Qbc (msk w' (fun b=>w.heap.size≤b)) A B C N.vs.length N.ar.length N.ts.length N∧Below w.heap.size w w':=by
 obtain ⟨A,B,C,I,O,P,n,m,k,c,d,e,ci,co,cp,h⟩:=h;have h0:=h.n0;have h1:=h.n1;have h2:=h.n2;have hok:=h.ok;obtain rfl:N.vs.length=n:=h.net.1.1;obtain rfl:N.ar.length=m:=h.net.2.1.1;obtain rfl:N.ts.length=k:=h.net.2.2.1;have HN:=Zh h.net;have HOK:=Zh hok;have hv:=hok.lv;have ha:=hok.la;have ht:=hok.lt;have hgl:=Qae h0;simp only at hgl;clear h hok
 go_enter func55,ntmps55
 go_wp2_with fail
 (refine Qac ?_;intro w1 hw1)
 have hb1:Below w.heap.size w w1:=by rw [hw1];exact Qaf
 have hJ:Blk w1 w.heap.size 120 #[.slice none 0 0,.slice none 0 0,.slice none 0 0]:=by rw [hw1];exact Qaz
 clear hw1;with_reducible refine (Qgp A B C _ _ _ c d e N w1 (HN.out.below hb1) (by omega) (by omega) (by omega) HOK.out.costs).mono ?_
 rintro r w2 ⟨A',B',C',c',d',e',rfl,hR,hbc,q1,q2,q3,q4,q5,q6,hb2⟩;have hJ2:=hJ.below hb2 hJ.lt;obtain ⟨j0,j1,j2⟩:=hJ2.three;have f0:=hJ2.frozen 0;have f1:=hJ2.frozen 1;have f2:=hJ2.frozen 2;have hbw2:=Zb hb1 hb2;have hz:=hJ.lt
 have HRM:=Zh (show Qbc (msk (((w2.setCell ⟨w.heap.size,0,none⟩ (.slice A' N.vs.length c')).setCell ⟨w.heap.size,1,none⟩ (.slice B' N.ar.length d')).setCell ⟨w.heap.size,2,none⟩ (.slice C' N.ts.length e')) (fun b=>w.heap.size≤b)) A' B' C' N.vs.length N.ar.length N.ts.length N from
  (hR.keep (by simp [World.setCell]) (fun b hb _=>Qex _ _ _ _ _ b (by have:=hb.1;omega)) (fun b hb=>Qex _ _ _ _ _ b (by have:=hbc b (.inl hb);omega)) (fun b hb=>Qex _ _ _ _ _ b (by have:=hbc b (.inr hb);omega))).rdM (fun b hb=>by have:=hb.1;omega) (fun b hb=>by have:=hbc b (.inl hb);omega) (fun b hb=>by have:=hbc b (.inr hb);omega))
 have HR:=Zh (show Qbc (((w2.setCell ⟨w.heap.size,0,none⟩ (.slice A' N.vs.length c')).setCell ⟨w.heap.size,1,none⟩ (.slice B' N.ar.length d')).setCell ⟨w.heap.size,2,none⟩ (.slice C' N.ts.length e')) A' B' C' N.vs.length N.ar.length N.ts.length N from
  (hR.keep (by simp [World.setCell]) (fun b hb _=>Qex _ _ _ _ _ b (by have:=hb.1;omega)) (fun b hb=>Qex _ _ _ _ _ b (by have:=hbc b (.inl hb);omega)) (fun b hb=>Qex _ _ _ _ _ b (by have:=hbc b (.inr hb);omega))).rd)
 have HBE:=Zh (show Below w.heap.size w (((w2.setCell ⟨w.heap.size,0,none⟩ (.slice A' N.vs.length c')).setCell ⟨w.heap.size,1,none⟩ (.slice B' N.ar.length d')).setCell ⟨w.heap.size,2,none⟩ (.slice C' N.ts.length e')) from ((hbw2.setCell (Zn _) _).setCell (Zn _) _).setCell (Zn _) _)
 have HLT:=Zh (show ∀ b,0<N.vs.length→Qaa A'=some b→w.heap.size<b from fun b hn hb=>by
  obtain ⟨b',o,x,y,z,e1,_,hc,_⟩:=hR.vs.at_ hn;rw [e1] at hb;have hb:some b'=some b:=hb
  injection hb with hb
  have:=(Qao.1 hc).1.1;simp only at this;omega)
 clear hR hbc q1 q2 q3 q4 q5 q6 hJ hJ2 hb2 hbw2 h0 h1 h2
 go_wp2_with fail
 refine bodyPost_ret (v:=.agg #[.slice A' N.vs.length c',.slice B' N.ar.length d',.slice C' N.ts.length e']) (by simp [results,results55,go_sem,j0,j1,j2]) rfl ?_;exact ⟨_,_,_,_,_,_,rfl,HR.out,HLT.out,HRM.out,HBE.out⟩
theorem Qsx (g:Nat)(N:Qai)(w:World)(h:Qgm w g N) :
 Calls prog 55 #[.pointer (some ⟨g,0,none⟩)] w fun r w'=>∃ A B C c d e,r=.returned (.agg #[.slice A N.vs.length c,.slice B N.ar.length d,.slice C N.ts.length e])∧Qbc w' A B C N.vs.length N.ar.length N.ts.length N∧(∀ b,0<N.vs.length→Qaa A=some b→w.heap.size<b)∧Below w.heap.size w w':=by
 refine (Qpx g N w h).mono ?_;rintro r w' ⟨A,B,C,c,d,e,h0,h1,h2,_,h4⟩;exact ⟨A,B,C,c,d,e,h0,h1,h2,h4⟩
end Go.Proofs.YthoagdpakddbdaaGreatDoor
namespace Go.Proofs.YthoagdpakddbdaaGreatDoor
open Go.RowKit Go.Maps Go.Proofs.Tryz
attribute [local go_sem ↓] Go.wp_at_zero Go.wp_at_succ
theorem ChOk.key {N:Qai}(hN:Qav N){c:Chn}(h:ChOk N c):kOk c.key:=by
 have h1:=hN.la;have h2:=hN.lt
 rcases h with ⟨a,h⟩|⟨p,i,t,h⟩
 · have:=h.k;have:=h.at_;have:=h.i;have:=h.o;have:=h.lt
   refine ⟨?_,?_,?_,?_⟩ <;> simp only [Chn.key] <;> omega
 · have ht:=hN.tabs t (Zm h.tt)
   have:=h.k;have:=h.at_;have:=h.in0;have:=h.in1;have:=h.out0;have:=h.out1;have:=ht.i16;have:=ht.o16;have:=(Zs h.tt).1;refine ⟨?_,?_,?_,?_⟩ <;> simp only [Chn.key] <;> omega
set_option maxRecDepth 20000 in
set_option maxHeartbeats 4000000 in
theorem Qks (w:World)(g:Nat)(N:Qai)(A:Option Addr)(n cA:Nat)(l:List Chn)(hg:Qgm w g N)(hok:Qav N)(hl:Qig w A n l)(hn:n≤9223372036854775807) (ps:List (ByteArray×Int)) (c0:Int) (h:Ck N l ps c0) :
 Calls prog 65 #[.pointer (some ⟨g,0,none⟩),.slice A n cA] w fun r w'=>∃ v,r=.returned v∧ErrV w' v ps c0∧Below w.heap.size w w':=by
 have hll:=hl.1;have HL:=Zh hl;have HOK:=Zh hok;have HNT:=Zh (fun (V:World) (hV:Below w.heap.size w V)=>Qsx g N V (hg.below hV));have HLK:=Zh (fun (V:World) (hV:Below w.heap.size w V) C e (h:RdY V C N.ts.length N.ts) x y z u v=>Qvj g C N.ts.length e N V x y z u v (hg.below hV) h);clear hl hg hok
 by_cases hlong:256<n
 · obtain ⟨hps,hc⟩:=h.long (by omega)
   subst hps;subst hc;have i1:(256:Int)<(n:Int):=by omega
   go_enter func65,ntmps65
   go_wp2_with fail
   go_ret
   exact ⟨_,rfl,.inr ⟨by decide,⟨_,0,Qrm 4,rfl,by simp,by simp,by simp,rfl⟩⟩,Qaf⟩
 have hn256:n≤256:=by omega
 obtain ⟨i,e,hv,hc,hps⟩:=h.short (by omega);subst hc;have i1:¬((256:Int)<(n:Int)):=by omega
 by_cases h0:n=0
 · subst h0
   have hl0:l=[]:=List.eq_nil_of_length_eq_zero hll;subst hl0
   have he:c0=0:=by
    rcases hv.at_ with ⟨_,he⟩|⟨c,hc,_⟩
    · exact he
    · simp at hc
   go_enter func65,ntmps65
   go_wp2_with fail
   go_ret
   exact ⟨_,rfl,.inl ⟨by first|rfl|exact he,rfl⟩,Qaf⟩
 have i2:¬((n:Int)=0):=by omega
 have HV:=Zh hv;have HP:=Zh hps;have hmm:∀ W,(Instr.makeMap 198 (some (.int .i64 (n:Int)))).run prog W=.ok (.map (some W.heap.size)) (W.alloc (.map #[] 0)):=fun W=>by simp [Instr.makeMap,run_underlying underlying198,asInt,asIntOf,Result.andThen]
 have hil:=hv.le;rw [hll] at hil;clear h hv hps
 go_enter func65,ntmps65
 go_wp2_with fail
 with_reducible refine (HNT.out w (Zr _ _)).mono ?_
 rintro r w1 ⟨A1,B1,C1,a1,b1,c1,rfl,hN1,_,hb1⟩;have hfl:∀ V,(Instr.field 120 (.agg #[.slice A1 N.vs.length a1,.slice B1 N.ar.length b1,.slice C1 N.ts.length c1]) 2).run prog V=.ok (.slice C1 N.ts.length c1) V:=fun V=>by rfl
 have HY:=Zh hN1.2.2;clear hN1 HNT
 go_wp2_with fail
 (refine Qag ?_;intro w2 hw2)
 have hb2:Below w1.heap.size w1 w2:=by rw [hw2];exact Qaf
 have hM2:MpC w2 w1.heap.size 0 []:=by rw [hw2];exact MpC.new w1
 obtain ⟨mb,hmb⟩:∃ b,b=w1.heap.size:=⟨_,rfl⟩;rw [←hmb] at hM2 ⊢;have hbw2:Below mb w1 w2:=by rw [hmb];exact hb2
 have hwm:w.heap.size≤mb:=by rw [hmb];exact hb1.size
 have HB1:=Zh hb1;have HMB:=Zh hmb;clear hw2 hb2 hb1 hmm hfl hmb
 go_loopw [31] (fun q V=>Below mb w1 V∧∃ j:Nat,j≤i∧q=.int .i64 j∧MpC V mb j ((l.take j).map Chn.key).reverse) (fun q _=>n+1-(intOf q).toNat)
 case atStart=>exact ⟨hbw2,0,Nat.zero_le _,rfl,by simpa using hM2⟩
 case round =>
  clear hM2 hbw2;obtain ⟨hbl,j,hj,rfl,hM⟩:=hrel
  by_cases hlt:j<n
  rotate_left
  · obtain rfl:j=n:=by omega
    obtain rfl:i=j:=by omega
    have hc0:c0=0:=by
     rcases HV.out.at_ with ⟨_,he⟩|⟨c,hc,_⟩
     · exact he
     · rw [Yd (by omega)] at hc;cases hc
    have hbw:Below w.heap.size w wr:=HB1.out.trans (hbl.mono hwm);clear hM;have i3:¬((i:Int)<(i:Int)):=by omega
    go_wp2_with fail
    go_ret
    exact ⟨_,rfl,.inl ⟨by first|rfl|exact hc0,rfl⟩,hbw⟩
  have hbw:Below w.heap.size w wr:=HB1.out.trans (hbl.mono hwm);obtain ⟨lb,lo,x,y,z,u,v,rfl,hc,c1',c2',c3',c4',c5'⟩:=(HL.out.below hbw).at_ hlt;have HC:=Zh hc;have i3:(j:Int)<(n:Int):=by omega
  have i4:(0:Int)≤(j:Int):=by omega
  have hml:=hM.lt;have hcl:=Qae c1';simp only at hcl;clear hc
  go_wp2_with fail
  (refine Qac ?_;intro w3 hw3)
  have hb3:Below wr.heap.size wr w3:=by rw [hw3];exact Qaf
  have hX3:Blk w3 wr.heap.size 83 #[.int .i64 x,.int .i64 y,.int .i64 z,.int .i64 u,.int .i64 v]:=by rw [hw3];exact Qaz
  clear hw3 c1' c2' c3' c4' c5';have hbw3:=Zb hbw hb3;with_reducible refine (HLK.out w3 hbw3 C1 c1 (HY.out.below (hbl.mono (by have:=HMB.out;omega) |>.trans (hb3.mono (by have:=hbl.size;have:=HMB.out;omega)))) x y z u v).mono ?_
  rintro r w4 ⟨rfl,hb4⟩;have hX4:=hX3.below hb4 hX3.lt;have hM4:MpC w4 mb j ((l.take j).map Chn.key).reverse:=(hM.below hb3).below hb4;have hbw4:=Zb hbw3 hb4;have hbl4:Below mb w1 w4:=(hbl.trans (hb3.mono (by omega))).trans (hb4.mono (by have:=hb3.size;omega))
  obtain ⟨x0,x1,x2,x3,x4⟩:w4.cell? ⟨wr.heap.size,0,none⟩=some (.int .i64 x)∧w4.cell? ⟨wr.heap.size,1,none⟩=some (.int .i64 y)∧w4.cell? ⟨wr.heap.size,2,none⟩=some (.int .i64 z)∧w4.cell? ⟨wr.heap.size,3,none⟩=some (.int .i64 u)∧w4.cell? ⟨wr.heap.size,4,none⟩=some (.int .i64 v) :=
   ⟨Zq hX4,Zq hX4,Zq hX4,Zq hX4,Zq hX4⟩
  have hx4l:wr.heap.size<w4.heap.size:=hX4.lt
  have hml4:=hM4.lt;obtain ⟨K,hK⟩:∃ K,K=((l.take j).map Chn.key).reverse:=⟨_,rfl⟩;rw [←hK] at hM4;have HK:=Zh hK;obtain ⟨E,hE⟩:∃ E,E=Qqw N (x,y,z,u,v):=⟨_,rfl⟩;rw [←hE];have HEE:=Zh hE;clear hb3 hb4 hX3 hX4 hM hbl hbw hbw3 hcl hml hE hK HLK HY
  by_cases hE0:E=0
  rotate_left
  · have hst:Qdy N (l.take j) (x,y,z,u,v)=E:=by unfold Qdy;rw [←HEE.out,if_pos hE0]
    obtain ⟨hji,hce⟩:=HV.out.here HC.out hj (by rw [hst];exact hE0);rw [hst] at hce;subst hce;subst hji;have HC0:=Zh hE0;have HPS:=Zh (HP.out hE0);clear hst hM4 hbl4
    go_wp2_with fail
    go_ret
    refine ⟨_,rfl,.inr ⟨HC0.out,?_⟩,Qaf⟩;rw [HPS.out];exact ⟨_,0,Qrm c0,rfl,by simp,by simp,by simp,rfl⟩
  subst hE0;have hk:kOk (x,y,z,u):=(Qkk.1 HEE.out.symm).key HOK.out;have HKO:=Zh hk;obtain ⟨dk,hdk⟩:∃ dk,dk=decide ((x,y,z,u)∈K):=⟨_,rfl⟩;have HDK:=Zh hdk;clear hk hdk
  go_wp2_with (at_lookup;with_reducible refine wpMc_ok rfl _ _ rfl (x,y,z,u) rfl (by repeat (first|assumption|apply MpC.alloc|(refine MpC.set ?_ ?_ _;rotate_left;omega))) rfl HKO.out ?_)
  intro cv;rw [←HDK.out]
  cases dk with
  | true =>
   have hmem:Chn.key (x,y,z,u,v)∈(l.take j).map Chn.key:=by
    have:=of_decide_eq_true HDK.out.symm;rw [HK.out,List.mem_reverse] at this;exact this
   have hst:Qdy N (l.take j) (x,y,z,u,v)=6:=by unfold Qdy;rw [if_neg (by rw [←HEE.out];simp),if_pos hmem]
   obtain ⟨hji,hce⟩:=HV.out.here HC.out hj (by rw [hst];decide);rw [hst] at hce;subst hce;subst hji;have HPS:=Zh (HP.out (by decide));clear hst hM4 hbl4 hmem
   go_wp2_with fail
   go_ret
   refine ⟨_,rfl,.inr ⟨by decide,?_⟩,Qaf⟩;rw [HPS.out];exact ⟨_,0,Qrm 6,rfl,by simp,by simp,by simp,rfl⟩
  | false =>
   have hmem:¬Chn.key (x,y,z,u,v)∈(l.take j).map Chn.key:=by
    have:=of_decide_eq_false HDK.out.symm;rw [HK.out,List.mem_reverse] at this;exact this
   have hst:Qdy N (l.take j) (x,y,z,u,v)=0:=by unfold Qdy;rw [if_neg (by rw [←HEE.out];simp),if_neg hmem]
   have HJ1:=Zh (HV.out.on HC.out hj hst)
   have HK1:=Zh (show ((l.take (j+1)).map Chn.key).reverse=(x,y,z,u)::K by
    rw [Yf (Zs HC.out).1,(Zs HC.out).2,HK.out];simp [Chn.key])
   have HBL4:=Zh hbl4;clear hst hmem hbl4
   go_wp2_with (at_mapUpdate;with_reducible refine wpMc_upd rfl _ _ _ rfl (x,y,z,u) j rfl (by repeat (first|assumption|apply MpC.alloc|(refine MpC.set ?_ ?_ _;rotate_left;omega))) (by omega) rfl rfl HKO.out (by omega) ?_)
   intro w6 hM6 hg6;have hbl6:Below mb w1 w6:=Below.grown (by have hb0:=HBL4.out;repeat (first|exact hb0|apply Below.drew|(refine Below.setCell ?_ ?_ _;rotate_left;(simp only;omega))|(refine Below.alloc ?_ ?_ _;rotate_left;(have:=hb0.size;omega)))) hg6 (by have:=HBL4.out.size;simp;omega) (fun g e=>by injection e with e;omega)
   clear hg6
   go_wp2_with fail
   go_roundw
   case rel=>exact ⟨hbl6,j+1,HJ1.out,by go_num,by rw [HK1.out];exact hM6⟩
   case measure=>simp [intOf];omega
end Go.Proofs.YthoagdpakddbdaaGreatDoor
namespace Go.Proofs.YthoagdpakddbdaaGreatDoor
open Go.RowKit Go.Proofs.Tryz
attribute [local go_sem ↓] Go.wp_at_zero Go.wp_at_succ
/-! a weight that is set -/
theorem Rd3.setW {W:World}{b o m a:Nat}{x y z u:Int}{l:List Tri} (h:Rd3 W (some ⟨b,o,none⟩) m l) (ha:l[a]?=some (x,y,z)) :
 Rd3 (W.setCell ⟨b,o+a*3+2,none⟩ (.int .i64 u)) (some ⟨b,o,none⟩) m (l.set a (x,y,u)):=by
 refine ⟨by rw [Yq];exact h.1,fun i p hp=>?_⟩
 by_cases e:a=i
 · subst e
   rw [Yg (Zs ha).1] at hp
   cases hp
   obtain ⟨b',o',e',h1,h2,h3⟩:=h.2 a _ ha
   cases e'
   refine ⟨b,o,rfl,?_,?_,World.cell?_setCell_same _ _ _ h3⟩
   · rw [World.cell?_setCell_other _ _ _ _ (by intro h;simp only [Addr.mk.injEq] at h;omega)];exact h1
   · rw [World.cell?_setCell_other _ _ _ _ (by intro h;simp only [Addr.mk.injEq] at h;omega)];exact h2
 · rw [Yh e] at hp
   obtain ⟨b',o',e',h1,h2,h3⟩:=h.2 i _ hp
   cases e'
   refine ⟨b,o,rfl,?_,?_,?_⟩
   · rw [World.cell?_setCell_other _ _ _ _ (by intro h;simp only [Addr.mk.injEq] at h;omega)];exact h1
   · rw [World.cell?_setCell_other _ _ _ _ (by intro h;simp only [Addr.mk.injEq] at h;omega)];exact h2
   · rw [World.cell?_setCell_other _ _ _ _ (by intro h;simp only [Addr.mk.injEq] at h;omega)];exact h3
theorem Qvg.set {W:World}{A:Option Addr}(h:Qvg W A)(p:Addr)(v:Value):Qvg (W.setCell p v) A:=fun b hb =>
 ⟨Yu (h b hb).1 (by simp [World.setCell]),fun o=>by rw [World.frozen?_setCell];exact (h b hb).2 o⟩
theorem GrR.setW {W:World}{F G:Nat→Prop}{g b o:Nat}{A C I O P:Option Addr}{n m k c d e ci co cp:Nat}{N:Qai}{a:Nat}{x y z u:Int}
 (h:GrR W F G g A (some ⟨b,o,none⟩) C I O P n m k c d e ci co cp N) (ha:N.ar[a]?=some (x,y,z)) (hu:wOk u=true) :
 GrR (W.setCell ⟨b,o+a*3+2,none⟩ (.int .i64 u)) F G g A (some ⟨b,o,none⟩) C I O P n m k c d e ci co cp (N.setW a x y u):=by
 have hk:Qax G W (W.setCell ⟨b,o+a*3+2,none⟩ (.int .i64 u)):=Qax.set W b _ _ (h.net.ga b rfl);have hA:=Qkh ha u;have hz:(W.setCell ⟨b,o+a*3+2,none⟩ (.int .i64 u)).heap.size=W.heap.size:=by simp [World.setCell]
 refine ⟨⟨h.net.vs.le hk.msk,h.net.ar.setW ha,h.net.ts.le (fun c' o' v hc' hc=>?_) hk.msk,h.net.wa.set _ _,h.net.wt.set _ _,h.net.ga,h.net.gt,h.net.ac⟩,(hk g h.gg h.blk.lt).trans h.blk,h.gg,?_,?_,?_,h.sub,fun b' hb'=>by rw [hz];exact h.lt b' hb',h.ok.setW ha hu,h.c0,h.c1,h.c2⟩
 · have:b≠c':=fun e=>h.net.ac b rfl (by rw [e];exact hc')
   rw [World.cell?_setCell_other _ _ _ _ (by intro h;simp only [Addr.mk.injEq] at h;omega)];exact hc
 · show RdT _ I n (Qif (·.2.1) (N.ar.set a (x,y,u)) n)
   rw [Qmr hA.2];exact h.ins.le hk.msk
 · show RdT _ O n (Qif (·.1) (N.ar.set a (x,y,u)) n)
   rw [Qmr hA.1];exact h.outs.le hk.msk
 · show RdP _ P m (plcs (N.ar.set a (x,y,u)))
   rw [Quq hA];exact h.plc.le hk.msk
theorem Qyn {B:Nat}{W:World}{p:Addr}(h:B≤p.block)(v:Value):Below B W (W.setCell p v):=(Zr _ _).setCell h v
set_option maxHeartbeats 1000000 in
theorem gSet_ok (g a:Nat)(x y z u:Int)(N:Qai)(F:Nat→Prop)(w:World)(h:GrO w F g N) (ha:N.ar[a]?=some (x,y,z)) (hu:wOk u=true) :
 Calls prog 93 #[.pointer (some ⟨g,0,none⟩),.int .i64 a,.int .i64 u] w fun e w'=>e=.returned .nilIface∧GrO w' F g (N.setW a x y u)∧Qax (fun b=>¬F b) w w'∧w.heap.size≤w'.heap.size∧∀ B,(∀ b,F b→B≤b)→Below B w w':=by
 have hla:=(Zs ha).1;have HA:=Zh (Qis g N a w h.rd (by omega) (by omega))
 have HW:=Zh (show ∀ V,Calls prog 123 #[.int .i64 u] V fun e w'=>e=.returned (.bool true)∧V=w' from fun V=>by
  have:=Qce u V;rw [hu] at this;exact this)
 obtain ⟨G,A,B,C,I,O,P,n,m,k,c,d,e,ci,co,cp,hR⟩:=h;have hlm:a<m:=by rw [hR.net.ar.1] at hla;exact hla
 obtain ⟨b,o,eB,c0,c1,c2⟩:=hR.net.ar.2 a _ ha;subst eB;have n1:w.cell? ⟨g,1,none⟩=some (.slice (some ⟨b,o,none⟩) m d):=Zq hR.blk;have HN:=Zh (hR.setW ha hu);have hf:=(hR.net.wa b rfl).2 (o+a*3+2);have HF:=Zh (hR.sub b (.inr (.inl rfl)));have i1:(0:Int)≤(a:Int):=by omega
 have i2:(a:Int)<(m:Int):=by omega
 clear hR ha hu hla c0 c1
 go_enter func93,ntmps93
 go_wp2_with fail
 with_reducible refine HA.out.mono ?_
 rintro r w' ⟨rfl,rfl⟩
 go_wp2_with fail
 with_reducible refine (HW.out _).mono ?_
 rintro r w' ⟨rfl,rfl⟩
 go_wp2_with fail
 go_ret
 refine ⟨rfl,⟨G,A,_,C,I,O,P,n,m,k,c,d,e,ci,co,cp,HN.out⟩,Qax.set _ _ _ _ (fun hn=>hn HF.out),by simp [World.setCell],fun B' hB=>Qyn (hB b HF.out) _⟩
theorem Own.setAt {W:World}{B n c k s g o:Nat}{e:TypeId}{xs:List Value} (h:Own W B e s (some ⟨g,o,none⟩) n c xs) (v:Value):Own (W.setCell ⟨g,o+k,none⟩ v) B e s (some ⟨g,o,none⟩) n c (xs.set k v):=by
 refine ⟨by rw [Yq];exact h.1,?_⟩
 rcases h.2 with ⟨h',_⟩|⟨g',cap',cur,h1,h2,h3,h4,h5,h6,h7⟩
 · cases h'
 · cases h1
   refine Or.inr ⟨g,c,cur.setIfInBounds (0+k) v,rfl,h2,(show Blk W g e cur from h3).set_ (0+k) _,h4,h5,by simpa using h6,?_⟩
   rw [Array.toList_setIfInBounds,List.take_set,h7,Yz]
theorem Qjd (l:List Int)(k:Nat)(x:Int):(Qad l).set k (.int .i64 x)=Qad (l.set k x):=by simp [Qad,List.map_set]
theorem turn_at {p q n i o:Nat} (hn:(n:Int)=(p:Int)*(q:Int)) (hi:i<p) (ho:o<q):i*q+o<n:=by
 have h1:n=p*q:=by exact_mod_cast hn
 have h2:(i+1)*q≤p*q:=Nat.mul_le_mul_right _ hi;rw [Nat.add_mul,Nat.one_mul] at h2;omega
set_option maxHeartbeats 1000000 in
theorem tWith_ok (A:Option Addr)(n c p q i o:Nat)(cs:List Int)(u:Int)(w:World)(h:RdI w A n cs)(ht:Qih ⟨p,q,cs⟩)(hi:i<p)(ho:o<q)(hu:wOk u=true) :
 Calls prog 141 #[.agg #[.int .i64 p,.int .i64 q,.slice A n c],.int .i64 i,.int .i64 o,.int .i64 u] w fun e w'=>∃ A' c',e=.returned (.tuple #[.agg #[.int .i64 p,.int .i64 q,.slice A' n c'],.nilIface])∧Own w' w.heap.size 2 1 A' n c' (Qad (cs.set (i*q+o) u))∧Below w.heap.size w w':=by
 have hlen:(n:Int)=(p:Int)*(q:Int):=by have:=ht.len;simp only at this;rw [h.1] at this;exact this
 have hkn:=turn_at hlen hi ho;have hm:=Qgo ht.i0 ht.i16 ht.o0 ht.o16;simp only at hm;have hn:n≤256:=by omega
 have HCK:=Zh (fun (V:World) (hV:Below w.heap.size w V)=>Qiy A n c ⟨p,q,cs⟩ V (h.below hV) ht);simp only at HCK;have HCL:=Zh (fun (V:World) (hV:Below w.heap.size w V)=>Qmn A n c (Qad cs) V ((h.below hV).rdsI) (Qam _) (by omega))
 have HW:=Zh (show ∀ V,Calls prog 123 #[.int .i64 u] V fun e w'=>e=.returned (.bool true)∧V=w' from fun V=>by
  have:=Qce u V;rw [hu] at this;exact this)
 have hq16:q≤16:=by have:=ht.o16;simp only at this;omega
 have hp16:p≤16:=by have:=ht.i16;simp only at this;omega
 obtain ⟨k0,hk0⟩:∃ k0,k0=i*q:=⟨_,rfl⟩;obtain ⟨k,hk⟩:∃ k,k=i*q+o:=⟨_,rfl⟩;rw [←hk] at hkn;have m1:(i:Int)*(q:Int)=(k0:Int):=by rw [hk0];simp
 have m2:(k0:Int)+(o:Int)=(k:Int):=by omega
 have wk0:IntKind.i64.wrap (k0:Int)=(k0:Int):=IntWalk.i64_in _ (by omega);have wk:IntKind.i64.wrap (k:Int)=(k:Int):=IntWalk.i64_in _ (by omega);have i1:¬((i:Int)<0):=by omega
 have i2:¬((p:Int)≤(i:Int)):=by omega
 have i3:¬((o:Int)<0):=by omega
 have i4:¬((q:Int)≤(o:Int)):=by omega
 have i5:(0:Int)≤(k:Int):=by omega
 have i6:(k:Int)<(n:Int):=by omega
 rw [←hk];have HKN:=Zh hkn;clear h ht hu hlen hm hk0 hk hkn hi ho hq16 hp16
 go_enter func141,ntmps141
 go_wp2_with fail
 with_reducible refine (HW.out _).mono ?_
 rintro r w' ⟨rfl,rfl⟩
 go_wp2_with fail
 (refine Qac ?_;intro w1 hw1)
 have hb1:Below w.heap.size w w1:=by rw [hw1];exact Qaf
 have hT1:Blk w1 w.heap.size 143 #[.int .i64 p,.int .i64 q,.slice A n c]:=by rw [hw1];exact Qaz
 have hR1:Blk w1 (w.heap.size+1) 143 #[.int .i64 0,.int .i64 0,.slice none 0 0]:=by rw [hw1];exact Qaz
 have hz1:w.heap.size+2≤w1.heap.size:=by rw [hw1];simp
 clear hw1;with_reducible refine (HCK.out w1 hb1).mono ?_
 rintro r w2 ⟨rfl,hb2⟩;have hb2':=Zb hb1 hb2;have hT2:=hT1.below hb2 hT1.lt;have hR2:=hR1.below hb2 hR1.lt;have hz2:w.heap.size+2≤w2.heap.size:=Yx hz1 hb2.size;clear hT1 hR1 hb1 hb2 hz1;obtain ⟨t0,t1,t2⟩:=hT2.three
 go_wp2_with fail
 with_reducible refine (HCL.out w2 hb2').mono ?_
 rintro r w3 ⟨A3,c3,rfl,hown,hb3⟩;have hb3':=Zb hb2' hb3;have hT3:=hT2.below hb3 hT2.lt;have hR3:=hR2.below hb3 hR2.lt;have hz3:w.heap.size+2≤w3.heap.size:=Yx hz2 hb3.size;have hown:=hown.mono hz2;clear hT2 hR2 hb2' hb3 hz2 t0 t1 t2;obtain ⟨gb,cur,rfl,hg0,hgb,_,hcz,hcu⟩:=hown.block (by have:=HKN.out;omega);obtain ⟨t0,t1,t2⟩:=hT3.three;have ft2:=hT3.frozen 2;have ne1:¬gb=w.heap.size:=by omega
 have ne2:¬w.heap.size=gb:=by omega
 obtain ⟨v0,hv0⟩:∃ v0,cur[k]?=some v0:=⟨_,Array.getElem?_eq_getElem (by have:=HKN.out;omega)⟩;have ck:w3.cell? ⟨gb,k,none⟩=some v0:=by rw [hgb.cell];exact hv0
 have fk:=hgb.frozen k;obtain ⟨r0,r1,r2⟩:=hR3.three;have fr0:=hR3.frozen 0;have fr1:=hR3.frozen 1;have fr2:=hR3.frozen 2;have hO1:Own (w3.setCell ⟨w.heap.size,2,none⟩ (.slice (some ⟨gb,0,none⟩) n c3)) (w.heap.size+2) 2 1 (some ⟨gb,0,none⟩) n c3 (Qad cs):=ownsRow_setCell_below hown (by simp only;omega) _;have HO:=Zh (hO1.setAt (k:=k) (.int .i64 u));clear hO1;clear hown hgb hcz hcu hv0
 go_wp2_with fail
 refine bodyPost_ret (v:=.tuple #[.agg #[.int .i64 p,.int .i64 q,.slice (some ⟨gb,0,none⟩) n c3],.nilIface]) (by simp [results,results141,go_sem,r0,r1,r2]) rfl ?_;refine ⟨_,_,rfl,?_,((((hb3'.setCell (Zn _) _).setCell (by simp only;omega) _).setCell (by simp only;omega) _).setCell (by simp only;omega) _).setCell (by simp only;omega) _⟩;have h1:=HO.out;rw [Yz,Qjd] at h1;exact Own.mono (ownsRow_setCell_below (ownsRow_setCell_below (ownsRow_setCell_below h1 (a:=⟨w.heap.size+1,0,none⟩) (by simp only;omega) _) (a:=⟨w.heap.size+1,1,none⟩) (by simp only;omega) _) (a:=⟨w.heap.size+1,2,none⟩) (by simp only;omega) _) (by omega)
def set3 (W:World)(c q:Nat)(x y z:Value):World:=((W.setCell ⟨c,q,none⟩ x).setCell ⟨c,q+1,none⟩ y).setCell ⟨c,q+2,none⟩ z
theorem set3_at {W:World}{c q:Nat}{x y z a b d:Value}(h0:W.cell? ⟨c,q,none⟩=some a)(h1:W.cell? ⟨c,q+1,none⟩=some b)(h2:W.cell? ⟨c,q+2,none⟩=some d) :
 (set3 W c q x y z).cell? ⟨c,q,none⟩=some x∧(set3 W c q x y z).cell? ⟨c,q+1,none⟩=some y∧(set3 W c q x y z).cell? ⟨c,q+2,none⟩=some z:=by
 unfold set3;refine ⟨?_,?_,?_⟩
 · rw [World.cell?_setCell_other _ _ _ _ (by intro h;simp only [Addr.mk.injEq] at h;omega),World.cell?_setCell_other _ _ _ _ (by intro h;simp only [Addr.mk.injEq] at h;omega)]
   exact World.cell?_setCell_same _ _ _ h0
 · rw [World.cell?_setCell_other _ _ _ _ (by intro h;simp only [Addr.mk.injEq] at h;omega)]
   refine World.cell?_setCell_same _ _ _ (?_:_=some b);rw [World.cell?_setCell_other _ _ _ _ (by intro h;simp only [Addr.mk.injEq] at h;omega)];exact h1
 · refine World.cell?_setCell_same _ _ _ (?_:_=some d)
   rw [World.cell?_setCell_other _ _ _ _ (by intro h;simp only [Addr.mk.injEq] at h;omega),World.cell?_setCell_other _ _ _ _ (by intro h;simp only [Addr.mk.injEq] at h;omega)];exact h2
theorem Qjt {W:World}{c q g i:Nat}{x y z:Value}(h:g≠c∨i<q∨q+2<i):(set3 W c q x y z).cell? ⟨g,i,none⟩=W.cell? ⟨g,i,none⟩:=by
 unfold set3;rw [World.cell?_setCell_other _ _ _ _ (by intro h;simp only [Addr.mk.injEq] at h;omega),World.cell?_setCell_other _ _ _ _ (by intro h;simp only [Addr.mk.injEq] at h;omega),World.cell?_setCell_other _ _ _ _ (by intro h;simp only [Addr.mk.injEq] at h;omega)]
theorem Qot (W:World)(c q:Nat)(x y z:Value):(set3 W c q x y z).heap.size=W.heap.size:=by simp [set3,World.setCell]
theorem Quu {B:Nat}{V W:World}(h:Below B V W){c:Nat}(hc:B≤c)(q:Nat)(x y z:Value):Below B V (set3 W c q x y z):=((h.setCell hc _).setCell hc _).setCell hc _
theorem Qvg.set3 {W:World}{A:Option Addr}(h:Qvg W A)(c q:Nat)(x y z:Value):Qvg (set3 W c q x y z) A:=((h.set _ _).set _ _).set _ _
theorem Qax.set3 {G:Nat→Prop}{V W:World}(h:Qax G V W)(hz:V.heap.size≤W.heap.size){c:Nat}(hc:¬G c)(q:Nat)(x y z:Value):Qax G V (set3 W c q x y z):=by
 have a1:=Qax.set (G:=G) W c q x hc;have a2:=Qax.set (G:=G) (W.setCell ⟨c,q,none⟩ x) c (q+1) y hc;have a3:=Qax.set (G:=G) ((W.setCell ⟨c,q,none⟩ x).setCell ⟨c,q+1,none⟩ y) c (q+2) z hc;have z1:(W.setCell ⟨c,q,none⟩ x).heap.size=W.heap.size:=by simp [World.setCell]
 have z2:((W.setCell ⟨c,q,none⟩ x).setCell ⟨c,q+1,none⟩ y).heap.size=W.heap.size:=by simp [World.setCell]
 exact ((h.trans a1 hz).trans a2 (by omega)).trans a3 (by omega)
theorem RdY2.setT {W v v':World}{c o k p n' c':Nat}{A':Option Addr}{t t':Qby}{ts:List Qby} (h:RdY2 W v (some ⟨c,o,none⟩) k ts) (ht:ts[p]?=some t) (hl:Le v v') (hr:RdI v' A' n' t'.costs) (hc:n'≤c'∧c'≤9223372036854775807) :
 RdY2 (set3 W c (o+p*3) (.int .i64 t'.ins) (.int .i64 t'.outs) (.slice A' n' c')) v' (some ⟨c,o,none⟩) k (ts.set p t'):=by
 refine ⟨by rw [Yq];exact h.1,fun i s hs=>?_⟩
 by_cases e:p=i
 · subst e
   rw [Yg (Zs ht).1] at hs
   cases hs
   obtain ⟨b',o',e',h1,h2,A2,n2,c2,h3,_⟩:=h.2 p t ht
   cases e'
   obtain ⟨g1,g2,g3⟩:=set3_at (x:=.int .i64 t'.ins) (y:=.int .i64 t'.outs) (z:=.slice A' n' c') h1 h2 h3;exact ⟨c,o,rfl,g1,g2,A',n',c',g3,hr,hc.1,hc.2⟩
 · rw [Yh e] at hs
   obtain ⟨b',o',e',h1,h2,A2,n2,c2,h3,h4,h5⟩:=h.2 i s hs
   cases e'
   exact ⟨c,o,rfl,by rw [Qjt (by omega)];exact h1,by rw [Qjt (by omega)];exact h2,A2,n2,c2,by rw [Qjt (by omega)];exact h3,h4.le hl,h5⟩
theorem GrR.bend {W W1:World}{F G:Nat→Prop}{g c o:Nat}{A B I O P:Option Addr}{n m k cc d e ci co cp:Nat}{N:Qai}{p j n' c':Nat}{A':Option Addr}{t:Qby}{u:Int}
 (h:GrR W F G g A B (some ⟨c,o,none⟩) I O P n m k cc d e ci co cp N) (hb:Below W.heap.size W W1) (ht:N.ts[p]?=some t) (hu:wOk u=true)
 (hown:Own W1 W.heap.size 2 1 A' n' c' (Qad (t.turn j u).costs)) :
 GrR (set3 W1 c (o+p*3) (.int .i64 t.ins) (.int .i64 t.outs) (.slice A' n' c')) (fun b=>F b∨(W.heap.size≤b∧b<W1.heap.size)) (fun b=>G b∨(W.heap.size≤b∧b<W1.heap.size)) g A B (some ⟨c,o,none⟩) I O P n m k cc d e ci co cp (N.bend p (t.turn j u)):=by
 have hFc:F c:=h.sub c (.inr (.inr rfl));have hclt:=h.lt c hFc
 have hGc:¬(G c∨(W.heap.size≤c∧c<W1.heap.size)):=by
  rintro (h'|h')
  · exact h.net.gt c rfl h'
  · omega
 have hGB:∀ b,Qaa B=some b→¬(G b∨(W.heap.size≤b∧b<W1.heap.size)):=fun b e h'=>by
  rcases h' with h'|h'
  · exact h.net.ga b e h'
  · have:=h.lt b (h.sub b (.inr (.inl e)));omega
 have hN:=(h.net.below hb).mono (G':=fun b=>G b∨(W.heap.size≤b∧b<W1.heap.size)) (fun _ h=>.inl h) hGB (fun b e=>by cases e;exact hGc)
 have hk:Qax (fun b=>G b∨(W.heap.size≤b∧b<W1.heap.size)) W1 (set3 W1 c (o+p*3) (.int .i64 t.ins) (.int .i64 t.outs) (.slice A' n' c')):=(Qax.refl _ _).set3 (Zn _) hGc _ _ _ _;have hkG:Qax G W (set3 W1 c (o+p*3) (.int .i64 t.ins) (.int .i64 t.outs) (.slice A' n' c')):=(Qax.below hb).set3 hb.size (fun h'=>hGc (.inl h')) _ _ _ _;have hne:∀ b,Qaa A'=some b→b≠c:=fun b e=>by have:=(hown.lt b e).1;omega
 have hr:RdI (msk (set3 W1 c (o+p*3) (.int .i64 t.ins) (.int .i64 t.outs) (.slice A' n' c')) (fun b=>G b∨(W.heap.size≤b∧b<W1.heap.size))) A' n' (t.turn j u).costs:=by
  refine RdK.msk ?_ (fun b e=>.inr (hown.lt b e));refine RdK.keepB (hown.rds.rdI) (fun b e=>?_);exact hk b (.inr (hown.lt b e)) (hown.lt b e).2
 have hml:Le (msk W G) (msk (set3 W1 c (o+p*3) (.int .i64 t.ins) (.int .i64 t.outs) (.slice A' n' c')) (fun b=>G b∨(W.heap.size≤b∧b<W1.heap.size))):=hkG.msk.trans (Qay (fun _ h=>.inl h));have hsz:=Qot W1 c (o+p*3) (.int .i64 t.ins) (.int .i64 t.outs) (.slice A' n' c');refine ⟨⟨hN.vs.le hk.msk,hN.ar.keep (fun b e=>?_),hN.ts.setT ht hk.msk hr ⟨hown.cap,hown.capMax⟩,hN.wa.set3 _ _ _ _ _,hN.wt.set3 _ _ _ _ _,hN.ga,hN.gt,hN.ac⟩,(hkG g h.gg h.blk.lt).trans h.blk,.inl h.gg,h.ins.le hml,h.outs.le hml,h.plc.le hml,fun b hb'=>?_,fun b hb'=>?_,h.ok.bend ht hu,h.c0,h.c1,h.c2⟩
 · have hlt:=(hN.wa b e).1
   have hbc:b≠c:=fun e'=>h.net.ac b e (by rw [e'];rfl)
   exact (Qax.refl (fun b=>b≠c) W1).set3 (Zn _) (fun h=>h rfl) _ _ _ _ b hbc hlt
 · rcases hb' with (h'|h')|h'|h'
   · exact .inl (h.sub b (.inl h'))
   · exact .inr h'
   · exact .inl (h.sub b (.inr (.inl h')))
   · exact .inl (h.sub b (.inr (.inr h')))
 · rw [hsz]
   rcases hb' with h'|h'
   · exact Yu (h.lt b h') hb.size
   · exact h'.2
set_option maxHeartbeats 1000000 in
theorem gBend_ok (g p i o ti to_:Nat)(cs:List Int)(u:Int)(N:Qai)(F:Nat→Prop)(w:World)(h:GrO w F g N) (ht:N.ts[p]?=some ⟨ti,to_,cs⟩) (hi:i<ti) (ho:o<to_) (hu:wOk u=true) :
 Calls prog 94 #[.pointer (some ⟨g,0,none⟩),.int .i64 p,.int .i64 i,.int .i64 o,.int .i64 u] w fun e w'=>e=.returned .nilIface∧(∃ F':Nat→Prop,(∀ b,F' b→F b∨w.heap.size≤b)∧GrO w' F' g (N.bend p ((⟨ti,to_,cs⟩:Qby).turn (i*to_+o) u)))∧Qax (fun b=>¬F b) w w'∧w.heap.size≤w'.heap.size∧∀ B,B≤w.heap.size→(∀ b,F b→B≤b)→Below B w w':=by
 have hlt:=(Zs ht).1;have hT:Qih ⟨ti,to_,cs⟩:=h.ok.tabs _ (Zm ht);obtain ⟨G,A,B,C,I,O,P,n,m,k,c,d,e,ci,co,cp,hR⟩:=h;have hpk:p<k:=by rw [hR.net.ts.1] at hlt;exact hlt
 obtain ⟨cb,co_,eC,c0,c1,A1,n1,cc1,c2,hr1,hcp⟩:=hR.net.ts.2 p _ ht;subst eC;have hr1:=hr1.le (Qbh w G);have n2:w.cell? ⟨g,2,none⟩=some (.slice (some ⟨cb,co_,none⟩) k e):=Zq hR.blk;have HWT:=Zh (fun (V:World) (hV:Below w.heap.size w V)=>tWith_ok A1 n1 cc1 ti to_ i o cs u V (hr1.below hV) hT hi ho hu);have HR:=Zh hR;have HB:=Zh (fun (W1:World) (hb:Below w.heap.size w W1) (A':Option Addr) (n' c':Nat) hown=>hR.bend (p:=p) (j:=i*to_+o) (A':=A') (n':=n') (c':=c') hb ht hu hown);have hFc:F cb:=hR.sub cb (.inr (.inr rfl));have hcl:=hR.lt cb hFc;have HF:=Zh hFc;have fz:=fun x=>(hR.net.wt cb rfl).2 x
 have i1:(0:Int)≤(p:Int):=by omega
 have i2:(p:Int)<(k:Int):=by omega
 have i3:¬((p:Int)<0):=by omega
 have i4:¬((k:Int)≤(p:Int)):=by omega
 have hglt:g<w.heap.size:=hR.blk.lt
 have hgc:¬g=cb:=fun e=>hR.net.gt cb rfl (by rw [←e];exact hR.gg)
 simp only at c0 c1 c2;have fz0:=fz (co_+p*3);have fz1:=fz (co_+p*3+1);have fz2:=fz (co_+p*3+2);clear hR ht hu hlt hT hr1 hi ho fz hFc
 go_enter func94,ntmps94
 go_wp2_with fail
 with_reducible refine (HWT.out w (Zr _ _)).mono ?_
 rintro r w2 ⟨A2,c3,rfl,hown,hb2⟩;have HO:=Zh hown;clear hown HWT
 go_wp2_with fail
 obtain ⟨w3,hw3⟩:∃ X,X=w2.alloc (.cells #[.int .i64 ti,.int .i64 to_,.slice A2 n1 c3] 143):=⟨_,rfl⟩;rw [←hw3];have hT3:Blk w3 w2.heap.size 143 #[.int .i64 ti,.int .i64 to_,.slice A2 n1 c3]:=by rw [hw3];exact Blk.new _ _ _
 have hb3:Below w.heap.size w w3:=by rw [hw3];exact Qaf
 have HO3:=Zh (show Own w3.drew w.heap.size 2 1 A2 n1 c3 (Qad (cs.set (i*to_+o) u)) by rw [hw3];exact (HO.out.alloc _).drew)
 have hz2:=hb2.size;have n3:=Zc hb3 (Zn _) n2;have e0:=Zc hb3 (Zn _) c0;have e1:=Zc hb3 (Zn _) c1;have e2:=Zc hb3 (Zn _) c2;have f0:=(Below.frozenOf hb3 (a:=⟨cb,co_+p*3,none⟩) hcl).trans fz0;have f1:=(Below.frozenOf hb3 (a:=⟨cb,co_+p*3+1,none⟩) hcl).trans fz1;have f2:=(Below.frozenOf hb3 (a:=⟨cb,co_+p*3+2,none⟩) hcl).trans fz2;have htc:w2.heap.size≠cb:=by omega
 obtain ⟨gt,hgt⟩:∃ x,x=w2.heap.size:=⟨_,rfl⟩;rw [←hgt] at hT3 htc ⊢;clear hw3 hb2 HO n2 c0 c1 c2 fz0 fz1 fz2 hgt hz2;have HSX:=Zh (show ∀ X:World,(X.cell? ⟨g,2,none⟩=some (.slice (some ⟨cb,co_,none⟩) k e)∧Blk X gt 143 #[.int .i64 ti,.int .i64 to_,.slice A2 n1 c3])→X.cell? ⟨g,2,none⟩=some (.slice (some ⟨cb,co_,none⟩) k e)∧X.cell? ⟨gt,0,none⟩=some (.int .i64 ti)∧X.cell? ⟨gt,1,none⟩=some (.int .i64 to_)∧X.cell? ⟨gt,2,none⟩=some (.slice A2 n1 c3) from fun X hX=>⟨hX.1,hX.2.three⟩)
 refine wp_region_held_drew (S:=fun X=>X.cell? ⟨g,2,none⟩=some (.slice (some ⟨cb,co_,none⟩) k e)∧Blk X gt 143 #[.int .i64 ti,.int .i64 to_,.slice A2 n1 c3]) (by kernel_rfl) ⟨n3,hT3.drew⟩ (fun _=>?_);refine tz 0 48 ?_;refine tz 1 49 ?_;refine tz 2 50 ?_;refine tz 3 51 ?_;refine tz 4 52 ?_;refine tz 5 53 ?_;refine tz 6 54 ?_;refine tz 7 55 ?_;have e0':w3.drew.cell? ⟨cb,co_+p*3,none⟩=_:=e0;have e1':w3.drew.cell? ⟨cb,co_+p*3+1,none⟩=_:=e1;have e2':w3.drew.cell? ⟨cb,co_+p*3+2,none⟩=_:=e2;refine Zk 8 (fun K hK=>?_);go_simp;refine hK.out _ _ ⟨?_,((hT3.drew.far (by simp only;omega) _).far (by simp only;omega) _).far (by simp only;omega) _⟩ (fun _=>?_)
 · have:=Qjt (W:=w3.drew) (c:=cb) (q:=co_+p*3) (g:=g) (i:=2) (x:=.int .i64 ti) (y:=.int .i64 to_) (z:=.slice A2 n1 c3) (.inl hgc)
   exact this.trans n3
 clear hK K;refine Zd ?_
 go_wp2_with fail
 go_ret
 have hz3:w3.drew.heap.size=w3.heap.size:=rfl;refine ⟨rfl,⟨_,?_,⟨_,A,B,_,I,O,P,n,m,k,c,d,e,ci,co,cp,HB.out w3.drew hb3.drew A2 n1 c3 HO3.out⟩⟩,(Qax.below hb3.drew).set3 hb3.size (fun hn=>hn HF.out) _ _ _ _,?_,fun B' hB1 hB2=>Quu (hb3.drew.mono hB1) (hB2 _ HF.out) _ _ _ _⟩
 · exact fun b hb=>hb.imp id (fun h=>h.1)
 · have:=Qot w3.drew cb (co_+p*3) (.int .i64 ti) (.int .i64 to_) (.slice A2 n1 c3)
   exact Yx hb3.size (Nat.le_of_eq this.symm)
theorem Qte {N:Qai}{l:List Chn}{k:Nat}{c:Chn} (h:l[k]?=some c):Qdq N (l.take (k+1))=Qpa (Qdq N (l.take k)) c:=by
 rw [Yf (Zs h).1,(Zs h).2,appN_app]
 rfl
theorem Qcj.pre {N:Qai}{l:List Chn}(h:Qcj N l)(k:Nat):Qcj N (l.take k):=(Qwq (l:=l.take k) (m:=l.drop k) (by rw [List.take_append_drop];exact h)).1
theorem Qcj.at_ {N:Qai}{l:List Chn}(h:Qcj N l){k:Nat}{c:Chn} (hc:l[k]?=some c):ChOk (Qdq N (l.take k)) c:=(h.all c (Zm hc)).shape (Qdj (h.pre k))
theorem Qcc.nat {N:Qai}(hN:Qav N){c:Chn}{p i:Nat}{t:Qby}(h:Qcc N c p i t):∃ (ti tO ci co:Nat) (cs:List Int),t=⟨ti,tO,cs⟩∧c.2.2.1=ci∧c.2.2.2.1=co∧ci<ti∧co<tO∧i=ci*tO+co:=by
 have ht:=hN.tabs t (Zm h.tt);obtain ⟨a,b,cs⟩:=t;have h0:=ht.i0;have h1:=ht.o0;have h2:=h.in0;have h3:=h.in1;have h4:=h.out0;have h5:=h.out1;have h6:=h.i;simp only at h0 h1 h3 h5 h6;refine ⟨a.toNat,b.toNat,c.2.2.1.toNat,c.2.2.2.1.toNat,cs,?_,by omega,by omega,by omega,by omega,h6⟩;rw [Int.toNat_of_nonneg h0,Int.toNat_of_nonneg h1]
theorem Qax.transF {G G':Nat→Prop}{w V V':World}(h:Qax G w V)(g:Qax G' V V')(hs:∀ b,G b→b<w.heap.size→G' b)(hz:w.heap.size≤V.heap.size):Qax G w V':=fun b hb hl=>(g b (hs b hb hl) (Yu hl hz)).trans (h b hb hl)
structure ApV (w:World) (F:Nat→Prop) (g:Nat) (V:World) (M:Qai):Prop where
 kept:Qax (fun b=>¬F b) w V
 size:w.heap.size≤V.heap.size
 gr:∃ F':Nat→Prop,(∀ b,F' b→F b∨w.heap.size≤b)∧GrO V F' g M
 bel:∀ B,B≤w.heap.size→(∀ b,F b→B≤b)→Below B w V
section
variable {w V V':World} {F F' F2:Nat→Prop} {g:Nat} {M M':Qai}
theorem ApV.start (h:GrO w F g M):ApV w F g w M:=⟨Qax.refl _ _,Zn _,⟨F,fun _ h=>.inl h,h⟩,fun _ _ _=>Zr _ _⟩
theorem ApV.below (h:ApV w F g V M)(hb:Below V.heap.size V V'):ApV w F g V' M:=by
 obtain ⟨F',h1,h2⟩:=h.gr;exact ⟨h.kept.trans (Qax.below hb) h.size,Yx h.size hb.size,⟨F',h1,h2.below hb⟩,fun B hB hF=>(h.bel B hB hF).trans (hb.mono (Yx hB h.size))⟩
theorem ApV.step (h:ApV w F g V M)(hF:∀ b,F' b→F b∨w.heap.size≤b)(hF2:∀ b,F2 b→F' b∨V.heap.size≤b)(hg:GrO V' F2 g M') (hk:Qax (fun b=>¬F' b) V V') (hz:V.heap.size≤V'.heap.size) (hb:∀ B,B≤V.heap.size→(∀ b,F' b→B≤b)→Below B V V'):ApV w F g V' M' :=
 ⟨h.kept.transF hk (fun b hb hl hn=>by rcases hF b hn with h1|h1;exact hb h1;omega) h.size,Yx h.size hz,
  ⟨F2,fun b hb=>by
   rcases hF2 b hb with h1|h1
   · exact hF b h1
   · exact .inr (Yx h.size h1),hg⟩,
  fun B hB hFB=>(h.bel B hB hFB).trans (hb B (Yx hB h.size) (fun b hb=>by
   rcases hF b hb with h1|h1
   · exact hFB b h1
   · omega))⟩
end
set_option maxRecDepth 20000 in
set_option maxHeartbeats 4000000 in
theorem apply_ok (w:World)(g:Nat)(N:Qai)(F:Nat→Prop)(A:Option Addr)(n cA:Nat)(l:List Chn)(hg:GrO w F g N) (hl:Qig (msk w (fun b=>¬F b)) A n l) (hb:Qcj N l) (hl256:l.length≤256) :
 Calls prog 49 #[.pointer (some ⟨g,0,none⟩),.slice A n cA] w fun r w'=>r=.returned .nilIface∧ApV w F g w' (Qdq N l):=by
 have hln:=hl.1;have HL:=Zh hl;have HB:=Zh hb;have hok:=hg.ok;have HOK:=Zh hok;have HCK:=Zh (Qks w g N A n cA l hg.rd hok (hl.le (Qbh _ _)) (by omega) [] 0 (hb.ck hl256));have HAP:=Zh (ApV.start hg);clear hg hl hb hok
 go_enter func49,ntmps49
 go_wp2_with fail
 with_reducible refine HCK.out.mono ?_
 rintro r w1 ⟨v,rfl,he,hb1⟩
 obtain rfl:v=.nilIface:=by
  rcases he with ⟨_,h⟩|⟨h,_⟩
  · exact h
  · exact absurd rfl h
 have HA1:=Zh (HAP.out.below hb1);clear HCK HAP he hb1
 go_wp2_with fail
 go_loopw [17] (fun q V=>∃ j:Nat,j≤n∧q=.int .i64 j∧ApV w F g V (Qdq N (l.take j))) (fun q _=>n-(intOf q).toNat)
 case atStart=>exact ⟨0,Nat.zero_le _,rfl,by simpa [Qdq] using HA1.out⟩
 case round =>
  clear HA1;obtain ⟨j,hj,rfl,hav⟩:=hrel;have HAV:=Zh hav;clear hav
  by_cases hlt:j<n
  rotate_left
  · obtain rfl:j=n:=by omega
    have i3:¬((j:Int)<(j:Int)):=by omega
    go_wp2_with fail
    go_ret
    refine ⟨rfl,?_⟩;have:=HAV.out;rw [Ye (by omega)] at this;exact this
  obtain ⟨lb,lo,x,y,z,u,v,rfl,hc,c1,c2,c3,c4,c5⟩:=(HL.out.le (HAV.out.kept.msk.trans (Qbh _ _))).at_ hlt;have hco:=HB.out.at_ hc;have HM':=Zh (Qte (N:=N) hc);obtain ⟨M,hM⟩:∃ M,M=Qdq N (l.take j):=⟨_,rfl⟩;rw [←hM] at HAV hco HM';have HMO:=Zh (show Qav M by rw [hM];exact Qpo HOK.out (HB.out.pre j))
  have i3:(j:Int)<(n:Int):=by omega
  have i4:(0:Int)≤(j:Int):=by omega
  have hcl:=Qae c1;simp only at hcl;clear hc hM
  rcases hco with ⟨a,hs⟩|⟨p,i,t,hbn⟩
  · have hk:=hs.k;have hat:=hs.at_;have hwk:=hs.w
    simp only at hk hat;have hwk:wOk v=true:=hwk;subst hk;subst hat;obtain ⟨⟨ax,ay,az⟩,ha⟩:∃ e,M.ar[a]?=some e:=⟨_,Zg hs.lt⟩;have HE:=Zh (hs.eq ha);have HAR:=Zh ha;have HWK:=Zh hwk;clear hs ha hwk
    go_wp2_with fail
    (refine Qac ?_;intro w3 hw3)
    have HA3:=Zh (HAV.out.below (show Below wr.heap.size wr w3 by rw [hw3];exact Qaf))
    clear hw3 c1 c2 c3 c4 c5 hcl HAV;obtain ⟨F',hF',hGr⟩:=HA3.out.gr;have HF':=Zh hF';have HSET:=Zh (gSet_ok g a ax ay az v M F' w3 hGr HAR.out HWK.out);clear hGr hF';with_reducible refine HSET.out.mono ?_
    rintro r w4 ⟨rfl,k1,k2,k3,k4⟩
    have HA4:=Zh (show ApV w F g w4 (Qdq N (l.take (j+1))) by
     rw [HM'.out,HE.out];exact HA3.out.step HF'.out (fun _ h=>.inl h) k1 k2 k3 (fun B _ hB=>k4 B hB))
    clear k1 k2 k3 k4 HSET
    go_wp2_with fail
    go_roundw
    case rel=>exact ⟨j+1,by omega,by go_num,HA4.out⟩
    case measure=>simp [intOf];omega
  · have hk:=hbn.k;have hat:=hbn.at_;have hwk:=hbn.w
    simp only at hk hat;have hwk:wOk v=true:=hwk;subst hk;subst hat;have HE:=Zh hbn.eq;have htt:=hbn.tt;obtain ⟨ti,tO,ci,co,cs,rfl,e1,e2,q1,q2,rfl⟩:=hbn.nat HMO.out;simp only at e1 e2;subst e1;subst e2;have HTT:=Zh htt;have HWK:=Zh hwk;clear hbn htt hwk
    go_wp2_with fail
    (refine Qac ?_;intro w3 hw3)
    have HA3:=Zh (HAV.out.below (show Below wr.heap.size wr w3 by rw [hw3];exact Qaf))
    clear hw3 c1 c2 c3 c4 c5 hcl HAV;obtain ⟨F',hF',hGr⟩:=HA3.out.gr;have HF':=Zh hF';have HSET:=Zh (gBend_ok g p ci co ti tO cs v M F' w3 hGr HTT.out q1 q2 HWK.out);clear hGr hF';with_reducible refine HSET.out.mono ?_
    rintro r w4 ⟨rfl,⟨F2,k0,k1⟩,k2,k3,k4⟩
    have HA4:=Zh (show ApV w F g w4 (Qdq N (l.take (j+1))) by
     rw [HM'.out,HE.out];exact HA3.out.step HF'.out k0 k1 k2 k3 k4)
    clear k0 k1 k2 k3 k4 HSET
    go_wp2_with fail
    go_roundw
    case rel=>exact ⟨j+1,by omega,by go_num,HA4.out⟩
    case measure=>simp [intOf];omega
end Go.Proofs.YthoagdpakddbdaaGreatDoor
