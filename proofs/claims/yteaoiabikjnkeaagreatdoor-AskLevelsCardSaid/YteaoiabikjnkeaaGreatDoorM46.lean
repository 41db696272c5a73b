/- For every input AskLevels returns true, and its arguments read afterwards as before; package errors' variable errorType tied to the program's text. No condition. -/
import Derived.Test.YteaoiabikjnkeaaGreatDoorM1
import Derived.Test.YteaoiabikjnkeaaGreatDoorM41
import Derived.Test.YteaoiabikjnkeaaGreatDoorM42
namespace Go.Proofs.YteaoiabikjnkeaaGreatDoor
open Go.RowKit Go.Extern.Stop Go.Stop Go.Extern
attribute [local go_sem ↓] Go.wp_at_zero Go.wp_at_succ
/-! Levels: plain. -/
theorem Qwu {ls:List (List Int)} {v w:Int} {av aw:List Int} (h:∀ j,Qcg ls j v av→Qcg ls j w aw):Qdd ls v av≤Qdd ls w aw:=by
 cases e:Qdd ls v av with
 | zero=>exact Nat.zero_le _
 | succ j=>exact Qem (h j (Qce e))
theorem lv_self {ls:List (List Int)} {a:Int} {av:List Int} (h:a∈av):Qdd ls a av=0:=by
 cases e:Qdd ls a av with
 | zero=>rfl
 | succ j =>
  obtain ⟨l,_,g⟩:=Qce e;exact absurd rfl (g a h)
theorem lv_swap {ls:List (List Int)} {v a b:Int}:Qdd ls v [a,b]=Qdd ls v [b,a]:=by
 have h:∀ (a b:Int) j,Qcg ls j v [a,b]→Qcg ls j v [b,a]:=fun a b j ⟨l,hl,g⟩=>⟨l,hl,fun x hx=>g x (by simp only [List.mem_cons,List.not_mem_nil,or_false] at hx ⊢; exact hx.symm)⟩
 exact Nat.le_antisymm (Qwu (h a b)) (Qwu (h b a))
section
variable {n:Nat} {ls:List (List Int)} {av:List Int} {i:Nat} {l:List Int} {v w:Nat}
theorem Qlp (hP:Qay n ls) (hi:ls[i]?=some l) (hv:v<n) (hw:w<n) (h:Qab l (v:Int)=Qab l (w:Int)) {j:Nat} (hj:i≤j) (ha:Qcg ls j (v:Int) av):Qcg ls j (w:Int) av:=by
 obtain ⟨m,hm,g⟩:=ha;refine ⟨m,hm,fun x hx=>?_⟩;have:=Qix hP hi hv hw h (j-i) m (by rw [show i+(j-i)=j by omega]; exact hm)
 rw [←this];exact g x hx
theorem lv_eq (hP:Qay n ls) (hi:ls[i]?=some l) (hv:v<n) (hw:w<n) (h:Qab l (v:Int)=Qab l (w:Int)) (hx:i+1≤Qdd ls (v:Int) av):Qdd ls (w:Int) av=Qdd ls (v:Int) av:=by
 have h1:Qdd ls (v:Int) av≤Qdd ls (w:Int) av:=by
  cases e:Qdd ls (v:Int) av with
  | zero=>exact Nat.zero_le _
  | succ j=>exact Qem (Qlp hP hi hv hw h (by omega) (Qce e))
 refine Nat.le_antisymm ?_ h1
 cases e:Qdd ls (w:Int) av with
 | zero=>exact Nat.zero_le _
 | succ j=>exact Qem (Qlp hP hi hw hv h.symm (by omega) (Qce e))
theorem lv_far (hP:Qay n ls) (hi:ls[i]?=some l) (hv:v<n) (hw:w<n) (hm:(w:Int)∈av) (hx:i+1≤Qdd ls (v:Int) av):Qab l (v:Int)≠Qab l (w:Int):=fun h=>by
 cases e:Qdd ls (v:Int) av with
 | zero=>omega
 | succ j =>
  obtain ⟨m,hm2,g⟩:=Qce e;exact g _ hm (Qix hP hi hv hw h (j-i) m (by rw [show i+(j-i)=j by omega]; exact hm2))
end
def ComP (w:World)(L:Nat) (ls:List (List Int)) (a b:Nat) (e:Ending) (w':World):Prop:=(∃ cm:Nat,e=.returned (.int .i64 (cm:Int))∧1≤cm∧cm≤L+1∧∀ l,ls[cm-1]?=some l→Qab l (a:Int)=Qab l (b:Int))∧Below w.heap.size w w'
set_option maxHeartbeats 2000000 in
theorem Qxk (Q:Option Addr)(L cq n:Nat) (ls:List (List Int)) (a b:Nat) (w:World) (h:RdT w Q L ls) (hP:Qay n ls) (ha:a<n) (hb:b<n) :
 Calls Tryz.prog 39 #[.agg #[.slice Q L cq],.int .i64 a,.int .i64 b] w (ComP w L ls a b):=by
 unfold ComP;have hL6:L≤6:=by rw [←h.1]; exact hP.l6
 have HT:=Zh h;have HP:=Zh hP;clear h hP
 go_enter Tryz.func39,Tryz.ntmps39
 go_wp2_with fail
 (refine Qaj ?_; intro w1 hw1)
 have HB1:=Zh (show Below w.heap.size w w1 by rw [hw1]; exact Qah)
 have HX:=Zh (show Blk w1 w.heap.size 87 #[.slice Q L cq] by rw [hw1]; refine Blk.new' _ _ _ ?_; rfl)
 clear hw1
 go_loopw [12] (fun q W=>∃ j:Nat,j≤L∧q=.int .i64 j∧Below w1.heap.size w1 W) (fun q _=>L+1-(intOf q).toNat)
 case atStart=>exact ⟨0,Nat.zero_le _,rfl,Zr _ _⟩
 case round =>
  obtain ⟨j,hj,rfl,hbl1⟩:=hrel;have HB1L:=Zh hbl1;have hbl:=Zb HB1.out hbl1;have HB:=Zh hbl;have HXr:=Zh (HX.out.below hbl1 HX.out.lt);clear hbl1
  by_cases hlt:j<L
  rotate_left
  · obtain rfl:j=L:=by omega
    have e0:¬(j:Int)<(j:Int):=by omega
    have y0:=HXr.out.cell 0;simp only [List.getElem?_toArray,List.getElem?_cons_zero] at y0;clear hbl
    go_wp2_with fail
    go_ret
    exact ⟨⟨j+1,by push_cast; rfl,by omega,by omega,fun l hl=>by have h1:=(Zs hl).1; rw [HT.out.1] at h1; omega⟩,HB.out⟩
  obtain ⟨qb,qo,A1,n1,c1,l,rfl,hl,k0,k1,_,_⟩:=(HT.out.below hbl).at_ (i:=j) hlt;have hlo:=HP.out.lvl l (Zm hl);obtain rfl:n=n1:=by rw [←k1.1]; exact hlo.len.symm
  obtain ⟨lb,lo,za,rfl,hza,ca⟩:=k1.at_ (i:=a) (by omega);obtain ⟨_,_,zb,e9,hzb,cb⟩:=k1.at_ (i:=b) (by omega)
  cases e9
  have HL:=Zh hl;have HZA:=Zh (Qap hza);have HZB:=Zh (Qap hzb);have i1:(j:Int)<(L:Int):=by omega
  have i2:(0:Int)≤(j:Int):=by omega
  have i3:¬((a:Int)<0):=by omega
  have i4:¬((b:Int)<0):=by omega
  have i5:¬((n:Int)≤(a:Int)):=by omega
  have i6:¬((n:Int)≤(b:Int)):=by omega
  have i7:(a:Int)<(n:Int):=by omega
  have i8:(b:Int)<(n:Int):=by omega
  have i9:(0:Int)≤(a:Int):=by omega
  have ia:(0:Int)≤(b:Int):=by omega
  clear hl hza hzb k1 hlo
  by_cases hz:za=zb
  · have e1:(za == zb)=true:=by simp [hz]
    have HE:=Zh hz;clear hz hbl
    go_wp2_with fail
    refine wp_region_held_drew (S:=fun V=>V=wr.drew) (by kernel_rfl) rfl (fun _=>?_);refine tz 0 35 ?_;refine tz 1 36 ?_;refine tz 2 37 ?_;refine tz 3 38 ?_;refine tz 4 39 ?_;refine tz 5 40 ?_;refine tz 6 41 ?_;refine tz 7 42 ?_;refine tz 8 43 ?_;refine wpAnyH_done (by kernel_rfl) ?_ _
    go_wp2_with fail
    go_ret
    exact ⟨⟨j+1,by push_cast; rfl,by omega,by omega,fun l' hl'=>by rw [Nat.add_sub_cancel,HL.out] at hl'; cases hl'; rw [HZA.out,HZB.out,HE.out]⟩,HB.out.drew⟩
  · have e1:(za == zb)=false:=by simp [hz]
    clear hz hbl
    go_wp2_with fail
    refine wp_region_held_drew (S:=fun V=>V=wr.drew) (by kernel_rfl) rfl (fun _=>?_);refine tz 0 35 ?_;refine tz 1 36 ?_;refine tz 2 37 ?_;refine tz 3 38 ?_;refine tz 4 39 ?_;refine tz 5 40 ?_;refine tz 6 41 ?_;refine tz 7 42 ?_;refine tz 8 43 ?_;refine wpAnyH_done (by kernel_rfl) ?_ _
    go_wp2_with fail
    go_roundw
    case rel=>exact ⟨j+1,by omega,by go_num,HB1L.out.drew⟩
    case measure=>simp [intOf]; omega
set_option maxRecDepth 20000 in
set_option maxHeartbeats 4000000 in
theorem Qlc (A B C Q:Option Addr)(n m k c d e L cq:Nat)(N:Qao) (ls:List (List Int)) (b0 b1 b2 b3:Nat) (w:World) (h:Qbv w A B C n m k N) (hk:k≤9223372036854775807) (hq:RdT w Q L ls) (hL:L≤9223372036854775807) (hbb:b0<256∧b1<256∧b2<256∧b3<256) (hg:w.cell? ⟨0,0,none⟩=some Qnk) :
 Calls Tryz.prog 8 #[.agg #[.slice A n c,.slice B m d,.slice C k e],.agg #[.slice Q L cq],.agg #[.int .u8 b0,.int .u8 b1,.int .u8 b2,.int .u8 b3]] w fun r w'=>r=.returned (.bool true)∧Below w.heap.size w w':=by
 have hg0:=Qak hg;simp only at hg0;have HH:=Zh h;have HT:=Zh hq;have HG:=Zh hg;have HNA:=Zh (show N.ar.length=m from h.2.1.1)
 have HNV:=Zh (show N.vs.length=n from h.1.1)
 clear h hq hg
 go_enter Tryz.func8,Tryz.ntmps8
 go_wp2_with fail
 (refine Qad ?_; intro w1 hw1)
 have hb1:Below w.heap.size w w1:=by rw [hw1]; exact Qah
 have hX:Blk w1 w.heap.size 26 #[.slice A n c,.slice B m d,.slice C k e]:=by rw [hw1]; exact Qba
 have hY:Blk w1 (w.heap.size+1) 29 #[.slice Q L cq]:=by rw [hw1]; exact Qba
 have HZ:=Zh (show Blk w1 (w.heap.size+1+1) 86 #[.int .u8 b0,.int .u8 b1,.int .u8 b2,.int .u8 b3] by rw [hw1]; exact Qba)
 clear hw1;with_reducible refine (Qmc w1 (Zc hb1 (Zn _) HG.out)).mono ?_
 rintro r w2 ⟨rfl,hb2⟩;have hq2:=hb2;have hX2:=hX.below hb2 hX.lt;have hY2:=hY.below hb2 hY.lt;have hb2':=Zb hb1 hb2;clear hX hY hb1 hb2;obtain ⟨x0,x1,x2⟩:=hX2.three;have y0:=hY2.cell 0;simp only [List.getElem?_toArray,List.getElem?_cons_zero] at y0
 go_wp2_with fail
 with_reducible refine (Qnt A B C Q n m k c d e L cq N ls w2 (HH.out.below hb2') hk (HT.out.below hb2') hL).mono ?_
 rintro r w3 ⟨hr,hb3⟩;have hb3':=Zb hb2' hb3;have hq3:=Zb hq2 hb3;have hX3:=hX2.below hb3 hX2.lt;have hY3:=hY2.below hb3 hY2.lt;clear x0 x1 x2 y0 hX2 hY2 hb2' hb3 hq2;obtain ⟨b,rfl,hGG⟩:=hr
 cases b with
 | false =>
  clear hGG
  go_wp2_with fail
  go_ret
  exact ⟨rfl,hb3'⟩
 | true =>
 have hmay:=hGG rfl;clear hGG;have HMAY:=Zh hmay;have hok:=hmay.small.ok;clear hmay;obtain ⟨x0,x1,x2⟩:=hX3.three;have y0:=hY3.cell 0;simp only [List.getElem?_toArray,List.getElem?_cons_zero] at y0
 by_cases hn0:n=0
 · have e0:((n:Int) == 0)=true:=by simp [hn0]
   clear hn0
   go_wp2_with fail
   go_ret
   exact ⟨rfl,hb3'⟩
 have e0:((n:Int) == 0)=false:=by simp; exact hn0
 go_wp2_with fail
 with_reducible refine (Qnp A B C Q n m k c d e L cq N ls w3 (HH.out.below hb3') hok (HT.out.below hb3') HMAY.out.part (Qnm HMAY.out)).mono ?_
 unfold Qof;rintro r w5 ⟨⟨g,o,CB,NC,cl,F,rfl,hNCe,hG5,hF5,hO5,hC5,hA5⟩,hb5⟩;have HNC:=Zh hNCe;have HB5:=Zh (Zb hb3' hb5);have HQ5:=Zh (Zb hq3 hb5);have HX5:=Zh (hX3.below hb5 hX3.lt);have HY5:=Zh (hY3.below hb5 hY3.lt);have HG5:=Zh hG5.rd;have HO5:=Zh (hO5.le (Qbd _ _));have HC5:=Zh (show RdI w5 (some ⟨CB,0,none⟩) NC cl from ⟨hC5.1,fun i x hx=>by obtain ⟨b,o,e,h1⟩:=hC5.2 i x hx; exact ⟨b,o,e,Qbd _ _ _ _ h1⟩⟩)
 have HALL:=Zh hA5;clear x0 x1 x2 y0 hX3 hY3 hb5 hb3' hNCe hG5 hF5 hO5 hC5 hA5 hq3;obtain ⟨x0,x1,x2⟩:=HX5.out.three;have y0:=HY5.out.cell 0;simp only [List.getElem?_toArray,List.getElem?_cons_zero] at y0;have HZ5:=Zh (HZ.out.below HQ5.out HZ.out.lt);have hPn:Qay n ls:=by rw [←HNV.out]; exact HMAY.out.part
 have HPN:=Zh hPn;have hn4:n≤4096:=by rw [←HNV.out]; exact hok.lv
 have HLV:=Zh (fun (v a b:Int) V (hV:Below w5.heap.size w5 V)=>Qhb V o N.ar ls n v a b (HO5.out.below hV) hPn (by omega));have HPT:=Zh (fun V (hV:Below w5.heap.size w5 V)=>Qhr o N.ar ls V (HO5.out.below hV) (by have:=hPn.l6; omega) (fun l hl=>by have:=(hPn.lvl l hl).len; omega));have HLS:=Zh (show ls.length=L from HT.out.1)
 rw [HLS.out] at HPT;obtain ⟨v0,hv0⟩:∃ x,x=b0 % n:=⟨_,rfl⟩;obtain ⟨v1,hv1⟩:∃ x,x=b1 % n:=⟨_,rfl⟩;obtain ⟨v2,hv2⟩:∃ x,x=b2 % n:=⟨_,rfl⟩;obtain ⟨v3,hv3⟩:∃ x,x=b3 % n:=⟨_,rfl⟩;have l0:v0<n:=by rw [hv0]; exact Nat.mod_lt _ (by omega)
 have l1:v1<n:=by rw [hv1]; exact Nat.mod_lt _ (by omega)
 have l2:v2<n:=by rw [hv2]; exact Nat.mod_lt _ (by omega)
 have l3:v3<n:=by rw [hv3]; exact Nat.mod_lt _ (by omega)
 have HCM:=Zh (fun (a b:Nat) (ha:a<n) (hb:b<n) V Q9 c9 (h9:RdT V Q9 L ls)=>Qxk Q9 L c9 n ls a b V h9 hPn ha hb);have HC01:=Zh (HCM.out v0 v1 l0 l1);have HC02:=Zh (HCM.out v0 v2 l0 l2);have HC03:=Zh (HCM.out v0 v3 l0 l3);obtain ⟨X,hX⟩:∃ X,X=Qdd ls (v0:Int) [(v2:Int),(v3:Int)]:=⟨_,rfl⟩;obtain ⟨Y,hY⟩:∃ Y,Y=Qdd ls (v1:Int) [(v2:Int),(v3:Int)]:=⟨_,rfl⟩;have hin:∀ x:Nat,x<n→inR n (x:Int):=fun x hx=>⟨by omega,by omega⟩
 have gX:lvI n ls v0 v2 v3=(X:Int):=by unfold lvI; rw [if_pos ⟨hin _ l0,hin _ l2,hin _ l3⟩,hX]
 have gY:lvI n ls v1 v2 v3=(Y:Int):=by unfold lvI; rw [if_pos ⟨hin _ l1,hin _ l2,hin _ l3⟩,hY]
 have gS:lvI n ls v2 v2 v3=0:=by unfold lvI; rw [if_pos ⟨hin _ l2,hin _ l2,hin _ l3⟩,lv_self (by simp)]; rfl
 have gW:lvI n ls v0 v3 v2=(X:Int):=by unfold lvI; rw [if_pos ⟨hin _ l0,hin _ l3,hin _ l2⟩,hX,lv_swap]
 have gN:lvI n ls (-1) v2 v3=0:=by unfold lvI; rw [if_neg (fun h=>by have:=h.1.1; omega)]
 have gM:lvI n ls v0 v2 n=0:=by unfold lvI; rw [if_neg (fun h=>by have:=h.2.2.2; omega)]
 have hXL:X≤L:=by rw [hX,←HLS.out]; exact Qhh _
 have HX1:=Zh (gX ▸ HLV.out v0 v2 v3);have HX2:=Zh (gY ▸ HLV.out v1 v2 v3);have HX3:=Zh (gS ▸ HLV.out v2 v2 v3);have HX4:=Zh (gW ▸ HLV.out v0 v3 v2);have HX6:=Zh (gN ▸ HLV.out (-1) v2 v3);have HX7:=Zh (gM ▸ HLV.out v0 v2 n)
 have HSAME:=Zh (show ∀ cm:Nat,1≤cm→cm≤X→(∀ l,ls[cm-1]?=some l→Qab l (v0:Int)=Qab l (v1:Int))→Y=X from fun cm h1 h2 h3=>by
  obtain ⟨l,hl⟩:∃ l,ls[cm-1]?=some l:=⟨_,Zg (by have:=HLS.out; omega)⟩;rw [hX,hY];exact lv_eq hPn hl l0 l1 (h3 l hl) (by rw [←hX]; omega))
 have HFAR:=Zh (show ∀ (u cm:Nat),u<n→(u=v2∨u=v3)→1≤cm→(∀ l,ls[cm-1]?=some l→Qab l (v0:Int)=Qab l (u:Int))→X<cm from fun u cm hu hu2 h1 h3=>by
  apply Classical.byContradiction
  intro hne;obtain ⟨l,hl⟩:∃ l,ls[cm-1]?=some l:=⟨_,Zg (by have:=HLS.out; omega)⟩;exact lv_far hPn hl l0 hu (av:=[(v2:Int),(v3:Int)]) (by rcases hu2 with rfl | rfl <;> simp) (by rw [←hX]; omega) (h3 l hl))
 have m0:Int.tmod (b0:Int) (n:Int)=(v0:Int):=by rw [hv0]; exact (Int.ofNat_tmod b0 n).symm
 have m1:Int.tmod (b1:Int) (n:Int)=(v1:Int):=by rw [hv1]; exact (Int.ofNat_tmod b1 n).symm
 have m2:Int.tmod (b2:Int) (n:Int)=(v2:Int):=by rw [hv2]; exact (Int.ofNat_tmod b2 n).symm
 have m3:Int.tmod (b3:Int) (n:Int)=(v3:Int):=by rw [hv3]; exact (Int.ofNat_tmod b3 n).symm
 have m4:(b0:Int) % (n:Int)=(v0:Int):=by rw [hv0]; rfl
 have m5:(b1:Int) % (n:Int)=(v1:Int):=by rw [hv1]; rfl
 have m6:(b2:Int) % (n:Int)=(v2:Int):=by rw [hv2]; rfl
 have m7:(b3:Int) % (n:Int)=(v3:Int):=by rw [hv3]; rfl
 have wr0:IntKind.i64.wrap (v0:Int)=(v0:Int):=IntWalk.i64_in _ (by omega);have wr1:IntKind.i64.wrap (v1:Int)=(v1:Int):=IntWalk.i64_in _ (by omega);have wr2:IntKind.i64.wrap (v2:Int)=(v2:Int):=IntWalk.i64_in _ (by omega);have wr3:IntKind.i64.wrap (v3:Int)=(v3:Int):=IntWalk.i64_in _ (by omega);have wu0:IntKind.i64.wrap (b0:Int)=(b0:Int):=IntWalk.i64_in _ (by omega);have wu1:IntKind.i64.wrap (b1:Int)=(b1:Int):=IntWalk.i64_in _ (by omega);have wu2:IntKind.i64.wrap (b2:Int)=(b2:Int):=IntWalk.i64_in _ (by omega);have wu3:IntKind.i64.wrap (b3:Int)=(b3:Int):=IntWalk.i64_in _ (by omega);have en0:¬n=0:=hn0;have en1:¬(n:Int)=0:=by omega
 clear hv0 hv1 hv2 hv3 hX hY hin gX gY gS gW gN gM hPn
 have HSX:=Zh (show ∀ V,Below w5.heap.size w5 V→V.cell? ⟨w.heap.size+1+1,0,none⟩=some (.int .u8 b0)∧V.cell? ⟨w.heap.size+1+1,1,none⟩=some (.int .u8 b1)∧V.cell? ⟨w.heap.size+1+1,2,none⟩=some (.int .u8 b2)∧V.cell? ⟨w.heap.size+1+1,3,none⟩=some (.int .u8 b3) from fun V hV=>by
  have hZ':=HZ5.out.below hV HZ5.out.lt;exact ⟨by rw [hZ'.cell]; rfl,by rw [hZ'.cell]; rfl,by rw [hZ'.cell]; rfl,by rw [hZ'.cell]; rfl⟩)
 go_wp2_with fail
 refine wp_region_held_drew (S:=fun V=>Below w5.heap.size w5 V) (by kernel_rfl) (Zr _ _).drew (fun _=>?_);refine tz 0 44 ?_;refine tz 1 45 ?_;refine tz 2 46 ?_;refine tz 3 47 ?_;refine tz 4 48 ?_;refine tz 5 49 ?_;refine tz 6 50 ?_;refine tz 7 51 ?_;refine tz 8 52 ?_;refine tz 9 53 ?_;refine tz 10 54 ?_;refine tz 11 55 ?_;refine tz 12 56 ?_;refine tz 13 57 ?_;refine tz 14 58 ?_;refine tz 15 59 ?_;refine tz 16 60 ?_;refine tz 17 61 ?_;refine tz 18 62 ?_;refine tz 19 63 ?_;refine tz 20 12 ?_;refine tz 21 13 ?_;refine tz 22 14 ?_;refine tz 23 15 ?_;refine wpAnyH_done (by kernel_rfl) ?_ _;clear HSX m0 m1 m2 m3 m4 m5 m6 m7 wr0 wr1 wr2 wr3 wu0 wu1 wu2 wu3 x0 x1 x2 y0
 go_wp2_with fail
 with_reducible refine (HX1.out _ (Zr _ _).drew).mono ?_
 rintro r w6 ⟨rfl,hb6⟩;have hb6':Below w5.heap.size w5 w6:=(Zr _ _).drew.trans hb6;clear hb6
 go_wp2_with fail
 with_reducible refine (HX2.out w6 hb6').mono ?_
 rintro r w7 ⟨rfl,hb7⟩;have hb7':=Zb hb6' hb7;clear hb7 hb6'
 go_wp2_with fail
 with_reducible refine (HPT.out w7 hb7').mono ?_
 rintro r w8 ⟨Q9,c9,rfl,hq9,hb8⟩;have hb8':=Zb hb7' hb8;have HQ9:=Zh (hq9.le (Qbd _ _));clear hb8 hb7' hq9;have HY8:=Zh (HY5.out.below hb8' HY5.out.lt);have y0:=HY8.out.cell 0;simp only [List.getElem?_toArray,List.getElem?_cons_zero] at y0;have yl:=HY8.out.lt;have iX0:¬((X:Int)<0):=by omega
 have iXL:¬((L:Int)<(X:Int)):=by omega
 have iXX:((X:Int) != (X:Int))=false:=by simp
 obtain ⟨w9,hw9⟩:∃ w9,w9=w8.alloc (.cells #[.slice Q9 L c9] 87):=⟨_,rfl⟩;have hb9:Below w8.heap.size w8 w9:=by rw [hw9]; exact Qah
 have HP9:=Zh (show Blk w9 w8.heap.size 87 #[.slice Q9 L c9] by rw [hw9]; exact Blk.new _ _ _)
 have HW9:=Zh hw9;have hb9':=Zb hb8' hb9;have HQ9':=Zh (HQ9.out.below hb9);clear hw9 hb9
 go_wp2_with fail
 rw [←HW9.out];clear y0 yl HW9;with_reducible refine (HX3.out w9 hb9').mono ?_
 rintro r wa ⟨rfl,hba⟩;have hba':=Zb hb9' hba
 go_wp2_with fail
 with_reducible refine (HX4.out wa hba').mono ?_
 rintro r wb ⟨rfl,hbb⟩;have hbb':=Zb hba' hbb
 go_wp2_with fail
 with_reducible refine (HX6.out wb hbb').mono ?_
 rintro r wc ⟨rfl,hbc⟩;have hbc':=Zb hbb' hbc
 go_wp2_with fail
 with_reducible refine (HX7.out wc hbc').mono ?_
 rintro r wd ⟨rfl,hbd⟩;have hbd':=Zb hbc' hbd;have hb9d:=Zb (Zb (Zb hba hbb) hbc) hbd;have HPd:=Zh (HP9.out.below hb9d HP9.out.lt);have HQd:=Zh (HQ9'.out.below hb9d);have HBd:=Zh hbd';clear hba hbb hbc hbd hba' hbb' hbc' hbd' hb9d hb9' hb8'
 by_cases hX0:X=0
 · have iX1:¬((0:Int)<(X:Int)):=by omega
   have iX2:((X:Int) == 0)=true:=by simp [hX0]
   clear hX0 HSAME HFAR
   go_wp2_with fail
   go_ret
   exact ⟨rfl,Zb HB5.out HBd.out⟩
 have iX1:(0:Int)<(X:Int):=by omega
 have iX2:((X:Int) == 0)=false:=by simp; exact hX0
 have p0:=HPd.out.cell 0;simp only [List.getElem?_toArray,List.getElem?_cons_zero] at p0;clear hX0
 go_wp2_with fail
 with_reducible refine (HC01.out wd Q9 c9 HQd.out).mono ?_
 unfold ComP;rintro r we ⟨⟨cm,rfl,hc1,hc2,hc3⟩,hbe⟩;have HPe:=Zh (HPd.out.below hbe HPd.out.lt);have HQe:=Zh (HQd.out.below hbe);have HBe:=Zh (Zb HBd.out hbe);clear hbe p0;have p0:=HPe.out.cell 0;simp only [List.getElem?_toArray,List.getElem?_cons_zero] at p0
 by_cases hcm:cm≤X
 · obtain rfl:=HSAME.out cm hc1 hcm hc3
   have j1:(cm:Int)≤(Y:Int):=by omega
   clear hc1 hc2 hc3 hcm
   go_wp2_with fail
   with_reducible refine (HC02.out we Q9 c9 HQe.out).mono ?_
   unfold ComP;rintro r wf ⟨⟨cn,rfl,hd1,hd2,hd3⟩,hbf⟩;have hd:Y<cn:=HFAR.out v2 cn l2 (.inl rfl) hd1 hd3
   have j2:(Y:Int)<(cn:Int):=by omega
   have HPf:=Zh (HPe.out.below hbf HPe.out.lt);have HQf:=Zh (HQe.out.below hbf);have HBf:=Zh (Zb HBe.out hbf);clear hbf p0 hd1 hd2 hd3 hd;have p0:=HPf.out.cell 0;simp only [List.getElem?_toArray,List.getElem?_cons_zero] at p0
   go_wp2_with fail
   with_reducible refine (HC03.out wf Q9 c9 HQf.out).mono ?_
   unfold ComP;rintro r wg ⟨⟨co,rfl,hd1,hd2,hd3⟩,hbg⟩;have hd:Y<co:=HFAR.out v3 co l3 (.inr rfl) hd1 hd3
   have j3:(Y:Int)<(co:Int):=by omega
   clear hd1 hd2 hd3 hd
   go_wp2_with fail
   go_ret
   exact ⟨rfl,Zb HB5.out (Zb HBf.out hbg)⟩
 · have j1:¬(cm:Int)≤(X:Int):=by omega
   clear hc1 hc2 hc3 hcm
   go_wp2_with fail
   with_reducible refine (HC02.out we Q9 c9 HQe.out).mono ?_
   unfold ComP;rintro r wf ⟨⟨cn,rfl,hd1,hd2,hd3⟩,hbf⟩;have hd:X<cn:=HFAR.out v2 cn l2 (.inl rfl) hd1 hd3
   have j2:(X:Int)<(cn:Int):=by omega
   have HPf:=Zh (HPe.out.below hbf HPe.out.lt);have HQf:=Zh (HQe.out.below hbf);have HBf:=Zh (Zb HBe.out hbf);clear hbf p0 hd1 hd2 hd3 hd;have p0:=HPf.out.cell 0;simp only [List.getElem?_toArray,List.getElem?_cons_zero] at p0
   go_wp2_with fail
   with_reducible refine (HC03.out wf Q9 c9 HQf.out).mono ?_
   unfold ComP;rintro r wg ⟨⟨co,rfl,hd1,hd2,hd3⟩,hbg⟩;have hd:X<co:=HFAR.out v3 co l3 (.inr rfl) hd1 hd3
   have j3:(X:Int)<(co:Int):=by omega
   clear hd1 hd2 hd3 hd
   go_wp2_with fail
   go_ret
   exact ⟨rfl,Zb HB5.out (Zb HBf.out hbg)⟩
end Go.Proofs.YteaoiabikjnkeaaGreatDoor
namespace Go.Proofs.YteaoiabikjnkeaaGreatDoor
open Go.ChangeShapes Go.WideShapes Go.ChangeAt Go.RowKit Go.Deep
namespace AskLevelsDone
section
variable {H:Type} {enc:TypeId×Value→H} {w:World} {base:Nat} {spare:Nat→Bool} {held:Bool}
theorem Qyu {P:Program}{n:Nat}{e t:TypeId} (ht:P.underlying t=some (.array n e)) {r:Reach} {b0:Nat} {v:Value} (h:Value.okWide P w r b0 t v):∃ cs:Array Value,v=.agg cs:=by
 simp only [Value.okWide,ht] at h;obtain ⟨cs,h1,_⟩:=h;exact ⟨cs,h1⟩
theorem Qyv {α:Type}:∀ {l:List α},l.length=4→∃ a b c d,l=[a,b,c,d]
 | [a,b,c,d],_=>⟨a,b,c,d,rfl⟩
theorem rel_a4 (fuel:Nat)(cs:List Value)(x:DataW H×List MemPlace)(h:DataW.trod enc Tryz.prog w base spare held fuel 86 cs=some x):∃ b0 b1 b2 b3:Nat,cs=[.int .u8 b0,.int .u8 b1,.int .u8 b2,.int .u8 b3]∧b0<256∧b1<256∧b2<256∧b3<256:=by
 obtain ⟨xs,m,_,_,hcl,hxl,hi⟩:=DataW.trod_array Tryz.underlying86 h;rw [show Tryz.prog.cellsOf 5=1 by kernel_rfl] at hi
 rw [show Tryz.prog.cellsOf 86=4 by kernel_rfl] at hcl
 have a0:=hi 0 (by omega);have a1:=hi 1 (by omega);have a2:=hi 2 (by omega);have a3:=hi 3 (by omega);rw [Zg (by omega)] at a0 a1 a2 a3;obtain ⟨n0,e0,_,g0⟩:=DataW.trod_int Tryz.underlying5 a0;obtain ⟨n1,e1,_,g1⟩:=DataW.trod_int Tryz.underlying5 a1;obtain ⟨n2,e2,_,g2⟩:=DataW.trod_int Tryz.underlying5 a2;obtain ⟨n3,e3,_,g3⟩:=DataW.trod_int Tryz.underlying5 a3;have k0:=bounds_u8 g0;have k1:=bounds_u8 g1;have k2:=bounds_u8 g2;have k3:=bounds_u8 g3;clear a0 a1 a2 a3 hi h g0 g1 g2 g3;obtain ⟨c0,c1,c2,c3,rfl⟩:=Qyv hcl;simp at e0 e1 e2 e3;exact ⟨n0.toNat,n1.toNat,n2.toNat,n3.toNat,by simp only [e0,e1,e2,e3]; rw [Int.toNat_of_nonneg k0.1,Int.toNat_of_nonneg k1.1,Int.toNat_of_nonneg k2.1,Int.toNat_of_nonneg k3.1],by omega,by omega,by omega,by omega⟩
end
set_option maxRecDepth 100000 in
theorem lifted (os:Os)(started:os.Started)(H:Type)(enc:TypeId×Value→H) :
 ReturnsInHanded {} Tryz.checked os 8 .any (fun w args => (Rows.askLevelsSpec.pre enc Tryz.prog Tryz.f8 [] false w args ∧ laidMetH Tryz.prog [("errors.errorType", Rows.laid_errors_errorType)] w) ∧ sizedMet enc Tryz.prog Tryz.f8 (OpenSpec.ofChange Rows.askLevelsSpec) false w args)
  (Rows.askLevelsSpec.post enc Tryz.prog Tryz.f8 false true false false):=by
 refine returnsInHanded_of_change_and (C := Tryz.checked) (X := fun w _ => laidMetH Tryz.prog [("errors.errorType", Rows.laid_errors_errorType)] w) (fun _ _ _ hh h => h.of_heap hh) own_ started (by kernel_rfl) Tryz.func8
  (ChangeSpec.witness_at (enc := enc) (C := Tryz.checked) (os := os) (X := fun w _ => laidMetH Tryz.prog [("errors.errorType", Rows.laid_errors_errorType)] w) false (Qkm os) #[.agg #[.slice none 0 0, .slice none 0 0, .slice none 0 0], .agg #[.slice none 0 0], .agg #[.int .u8 0, .int .u8 0, .int .u8 0, .int .u8 0]] 8 rfl (by kernel_rfl) (by kernel_rfl) (by kernel_rfl) (by kernel_rfl) (by kernel_rfl) (Qid os _)) ?_
 intro W base args ds gs before hval0 hW _ hsz0 hL _;clear hsz0;have hval:∀ (j:Nat) t v,Tryz.f8.params[j]?=some t→args[j]?=some v→Value.okWide Tryz.prog W .any base t v:=hval0;have hW':=hW;obtain ⟨p,q,hA0,hV,rfl,hfz,hnd⟩:=hW;have hA:DataW.TrodAll enc Tryz.prog W 0 (fun _=>true) true Tryz.f8.params.toList args.toList ds p:=hA0;rw [Tryz.params8] at hA hval;obtain ⟨v0,vs0,d0,ds0,p0,q0,hargs,rfl,rfl,h0,r0⟩:=trodAll_cons hA;obtain ⟨v1,vs1,d1,ds1,p1,q1,rfl,rfl,rfl,h1,r1⟩:=trodAll_cons r0;obtain ⟨v2,vs2,d2,ds2,p2,q2,rfl,rfl,rfl,h2,r2⟩:=trodAll_cons r1;obtain ⟨rfl,rfl,rfl⟩:=trodAll_nil r2;obtain rfl:args=#[v0,v1,v2]:=by cases args; simp_all
 obtain ⟨rfl,rfl⟩:=trodVars_none hV;obtain ⟨cs0,rfl,_⟩:=okWide_struct Tryz.underlying26 (hval 0 26 v0 rfl rfl);have k0:=h0;have lt0:∀ x∈p0,x.block<W.heap.size:=by obtain ⟨m,hm⟩:=k0; exact DataW.trod_lt m _ _ _ hm
 obtain ⟨A,B,C,n,m,k,c,d,e,N,hcs0,hnet,hk⟩:∃ (A B C:Option Addr) (n m k c d e:Nat) (N:Qao),cs0=#[.slice A n c,.slice B m d,.slice C k e]∧Qbv W A B C n m k N∧k≤9223372036854775807:=by
  obtain ⟨fuel,hf⟩:=h0;obtain ⟨A,B,C,n,m,k,c,d,e,N,e1,e2,e3⟩:=Qsl hf;exact ⟨A,B,C,n,m,k,c,d,e,N,Array.toList_inj.1 e1,e2,e3⟩
 subst hcs0;obtain ⟨cs1,rfl,_⟩:=okWide_struct Tryz.underlying29 (hval 1 29 v1 rfl rfl);have k1:=h1;have lt1:∀ x∈p1,x.block<W.heap.size:=by obtain ⟨m,hm⟩:=k1; exact DataW.trod_lt m _ _ _ hm
 obtain ⟨Q,L,cq,ls,hcs1,hpart,hLc⟩:∃ (Q:Option Addr) (L cq:Nat) (ls:List (List Int)),cs1=#[.slice Q L cq]∧RdT W Q L ls∧L≤9223372036854775807:=by
  obtain ⟨fuel,hf⟩:=h1;obtain ⟨Q,L,cq,ls,e1,e2,e3,e4⟩:=Qog hf;exact ⟨Q,L,cq,ls,Array.toList_inj.1 e1,e2,by omega⟩
 subst hcs1;obtain ⟨cs2,rfl⟩:=Qyu Tryz.underlying86 (hval 2 86 v2 rfl rfl);have k2:=h2;have lt2:∀ x∈p2,x.block<W.heap.size:=by obtain ⟨m,hm⟩:=k2; exact DataW.trod_lt m _ _ _ hm
 obtain ⟨b20,b21,b22,b23,hcs2,hr2⟩:∃ b0 b1 b2 b3:Nat,cs2=#[.int .u8 b0,.int .u8 b1,.int .u8 b2,.int .u8 b3]∧b0<256∧b1<256∧b2<256∧b3<256:=by
  obtain ⟨fuel,hf⟩:=h2;obtain ⟨b0,b1,b2,b3,e1,e2⟩:=rel_a4 _ _ _ hf;exact ⟨b0,b1,b2,b3,Array.toList_inj.1 e1,e2⟩
 subst hcs2;clear hA0 hval0;have hg:=Qgw hL;refine (Qlc A B C Q n m k c d e L cq N ls b20 b21 b22 b23 W hnet hk hpart hLc hr2 hg).mono fun e W' ⟨he,bel⟩=>?_
 subst he;exact ⟨_,rfl,_,_,_,[],_,[],hW',trodAll_mk1 (shut_bool Tryz.underlying4 _),(trodAll_cons_mk (Below.trod Qih (by kernel_rfl) (of_decide_eq_true (by kernel_rfl)) k0 bel lt0) (trodAll_cons_mk (Below.trod Qih (by kernel_rfl) (of_decide_eq_true (by kernel_rfl)) k1 bel lt1) (trodAll_cons_mk (Below.trod Qih (by kernel_rfl) (of_decide_eq_true (by kernel_rfl)) k2 bel lt2) trodAll_mk0))),rfl,bel.frame _,fun h=>by cases h⟩
theorem jf0:Rows.askLevelsRow.wf (OpenSpec.ofChange Rows.askLevelsSpec)=true:=by kernel_rfl
theorem jf1:laidOutB Tryz.prog=true:=by kernel_rfl
theorem jf2:mapsRowed Tryz.prog=true:=by kernel_rfl
theorem jf3:Tryz.f8.params.all (Tryz.prog.readableRec ·)=true:=by kernel_rfl
theorem jf4:namedTie Tryz.prog Rows.askLevelsRow.named Rows.askLevelsSpec.vars=true:=by kernel_rfl
theorem jf5:(Rows.askLevelsRow.stops == [])=true:=by kernel_rfl
theorem jf6:(Tryz.prog.stops == [])=true:=by kernel_rfl
theorem jf7:(Rows.askLevelsRow.knobs == [])=true:=by kernel_rfl
theorem jf8:(Tryz.prog.stopKnobs == [])=true:=by kernel_rfl
theorem jf9:(Rows.askLevelsRow.inPlace == Tryz.prog.inPlace 8)=true:=by kernel_rfl
theorem jf10:(Rows.askLevelsRow.unfollowed == Tryz.prog.unfollowed 8)=true:=by kernel_rfl
theorem jf11:(Rows.askLevelsRow.recurses == Tryz.prog.recurses 8)=true:=by kernel_rfl
theorem jf12:(Rows.askLevelsRow.named == Tryz.prog.varsNamed 8)=true:=by kernel_rfl
theorem jf13:(Rows.askLevelsRow.maps == (Tryz.f8.params.toList ++Rows.askLevelsSpec.plain.varTypes Tryz.prog).any (Tryz.prog.mapsRec ·))=true:=by kernel_rfl
theorem jf14:(Rows.askLevelsRow.ifaces == (Tryz.f8.params.toList ++Rows.askLevelsSpec.plain.varTypes Tryz.prog).any (Tryz.prog.ifacesRec ·))=true:=by kernel_rfl
theorem jf15:(Rows.askLevelsRow.mapsOut == Tryz.prog.mapsAmong Tryz.f8.resultTypes.toList)=true:=by kernel_rfl
theorem jf16:(Rows.askLevelsRow.loops == (Tryz.f8.params.toList ++Rows.askLevelsSpec.plain.varTypes Tryz.prog).any (Tryz.prog.loopsFrom ·))=true:=by kernel_rfl
theorem jf17:(Rows.askLevelsRow.wideKeys == (Tryz.f8.params.toList ++Rows.askLevelsSpec.plain.varTypes Tryz.prog ++Tryz.f8.resultTypes.toList).any (Tryz.prog.wideKeysFrom ·))=true:=by kernel_rfl
theorem jf18:Rows.askLevelsSpec.vars.all (Tryz.prog.varReadable ·)=true:=by kernel_rfl
theorem jf19:Tryz.f8.resultTypes.all (fun t=>Tryz.prog.readableRec t && decide (t<Tryz.prog.types.size))=true:=by kernel_rfl
theorem jf20:(Rows.askLevelsRow.ifacesOut == Tryz.f8.resultTypes.toList.any (Tryz.prog.ifacesRec ·))=true:=by kernel_rfl
theorem jf21:(Rows.askLevelsRow.loopsOut == Tryz.f8.resultTypes.toList.any (Tryz.prog.loopsFrom ·))=true:=by kernel_rfl
theorem jf22:(Rows.askLevelsRow.plainKeys == Tryz.prog.plainKeys)=true:=by kernel_rfl
theorem jf23:Rows.askLevelsRow.shortTexts.isNone=true:=by kernel_rfl
theorem jf24:Tryz.prog.stopsHeard=true:=by kernel_rfl
theorem jf25:Tryz.prog.mayEnter=true:=by kernel_rfl
theorem jf26:(Rows.askLevelsRow.lifted == Tryz.prog.liftsFinal)=true:=by kernel_rfl
theorem jf27:(Tryz.prog.make == some Rows.askLevelsRow.make)=true:=by kernel_rfl
theorem jf28:(Rows.askLevelsRow.kinds == (if Rows.askLevelsRow.domain.isEmpty then [] else Tryz.f8.params.toList.map fun t=>match Tryz.prog.underlying t with | some (.int k)=>some k | _=>none))=true:=by kernel_rfl
theorem jf29:(Rows.askLevelsRow.pinned == Rows.askLevelsRow.pinnedBy)=true:=by kernel_rfl
theorem jf30:(Rows.askLevelsRow.veiled == (Tryz.f8.params.toList ++Rows.askLevelsSpec.plain.varTypes Tryz.prog ++Tryz.f8.resultTypes.toList).any (Tryz.prog.veiledRec ·))=true:=by kernel_rfl
theorem jf31:Rows.askLevelsRow.veiledFits Tryz.prog Tryz.f8.params.toList (Tryz.f8.params.toList ++Rows.askLevelsSpec.plain.varTypes Tryz.prog ++Tryz.f8.resultTypes.toList)=true:=by kernel_rfl
set_option maxRecDepth 100000 in
theorem closed:joinedFacts Tryz.prog 8 Tryz.f8 Rows.askLevelsSpec Rows.askLevelsRow=true:=by
 simp only [joinedFacts,Bool.and_eq_true];exact ⟨⟨⟨⟨⟨⟨⟨⟨⟨⟨⟨⟨⟨⟨⟨⟨⟨⟨⟨⟨⟨⟨⟨⟨⟨⟨⟨⟨⟨⟨⟨jf0,jf1⟩,jf2⟩,jf3⟩,jf4⟩,jf5⟩,jf6⟩,jf7⟩,jf8⟩,jf9⟩,jf10⟩,jf11⟩,jf12⟩,jf13⟩,jf14⟩,jf15⟩,jf16⟩,jf17⟩,jf18⟩,jf19⟩,jf20⟩,jf21⟩,jf22⟩,jf23⟩,jf24⟩,jf25⟩,jf26⟩,jf27⟩,jf28⟩,jf29⟩,jf30⟩,jf31⟩
theorem named : Tryz.prog.funcNamed "roundsman/roundsmanlaw21.AskLevels" = some 8 := by kernel_rfl
theorem inst:Tryz.f8.isInstance Tryz.prog Rows.askLevelsRow.origin Rows.askLevelsRow.targs:=of_decide_eq_true (by kernel_rfl)
theorem wrap:Tryz.f8.isWrapper Tryz.prog Rows.askLevelsRow.wrapper Rows.askLevelsRow.mainSum:=by unfold Func.isWrapper; rw [if_neg (of_decide_eq_false (by kernel_rfl))]; exact ⟨rfl,rfl⟩
theorem over:Rows.AskLevelsSaid :=
 OpenClaim.holds_of_wide 8 Tryz.f8 rfl rfl rfl rfl rfl rfl rfl ⟨rfl,rfl,rfl,rfl,rfl⟩ rfl rfl rfl rfl rfl named Tryz.func8 closed inst wrap
  (fun os started H enc _=>lifted os started H enc)
theorem byText:Rows.askLevelsRow.wfByText (OpenSpec.ofChange Rows.askLevelsSpec)=true:=by kernel_rfl
theorem mainIs : Tryz.prog.mainIs = some (((true, "50a2035def9af4675d1cabe8bb01769292a43cd0b3e8ccc53597c94666fbfc99") : Bool × String).1, ((true, "50a2035def9af4675d1cabe8bb01769292a43cd0b3e8ccc53597c94666fbfc99") : Bool × String).2.toList) := by kernel_rfl
theorem looksL:true=Tryz.prog.looks []:=by kernel_rfl
theorem goes:false=Rows.askLevelsRow.goesBy Tryz.prog:=by kernel_rfl
theorem proved:Rows.AskLevelsCardSaid :=
 Claim7.holds_tied_plain_at .later [] [.handle] true (true, "50a2035def9af4675d1cabe8bb01769292a43cd0b3e8ccc53597c94666fbfc99") true
  over (fun _ h=>by cases h) byText (fun _ h=>by cases h) askLevels_row_tie rfl ⟨rfl,rfl⟩ mainIs rfl
  (fun f fn hf hfn=>by
   obtain rfl:f=8:=Option.some.inj (named.symm.trans hf) |>.symm
   obtain rfl:fn=Tryz.f8:=(Option.some.inj (Tryz.func8.symm.trans hfn)).symm
   exact ⟨looksL,fun j t ht=>by
    rw [Tryz.params8] at ht
    rcases j with _ | _ | _ | j
    · obtain rfl:t=26:=by simpa using ht.symm
      exact (show Tryz.prog.wantsStandIn 26=false by kernel_rfl)
    · obtain rfl:t=29:=by simpa using ht.symm
      exact (show Tryz.prog.wantsStandIn 29=false by kernel_rfl)
    · obtain rfl:t=86:=by simpa using ht.symm
      exact (show Tryz.prog.wantsStandIn 86=false by kernel_rfl)
    · simp at ht⟩)
  goes
#print axioms proved
end AskLevelsDone
end Go.Proofs.YteaoiabikjnkeaaGreatDoor
