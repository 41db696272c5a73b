/- Parts of the proof: Ls, Pc. -/
import Derived.Test.YthoagdpakddbdaaGreatDoorD1
import Derived.Test.YthoagdpakddbdaaGreatDoorD4
import Derived.Test.YthoagdpakddbdaaGreatDoorD9
import Derived.Lib.SliceRun
namespace Go.Proofs.YthoagdpakddbdaaGreatDoor
open Go.RowKit Go.Proofs.Tryz
attribute [local go_sem ↓] Go.wp_at_zero Go.wp_at_succ
def plI (l:List Int)(v:Int):Int:=match l.findIdx? (· == v) with|some i=>(i:Int)|none=>-1
theorem Qwd {l:List Int}{v:Int}{k:Nat} (h:l[k]?=some v) (hj:∀ j x,j<k→l[j]?=some x→x≠v):plI l v=k:=by
 unfold plI;have hk:=(Zs h).1
 have:l.findIdx? (· == v)=some k:=by
  rw [List.findIdx?_eq_some_iff_getElem];refine ⟨hk,by simpa using (Zs h).2,fun j hjk=>?_⟩
  simpa using hj j _ hjk (Zg (by omega))
 rw [this]
theorem Qdf {l:List Int}{v:Int}(h:v ∉ l):plI l v = -1:=by
 unfold plI
 have:l.findIdx? (· == v)=none:=by
  rw [List.findIdx?_eq_none_iff];intro x hx;have:x≠v:=fun e=>h (e▸hx)
  simpa using this
 rw [this]
theorem Qnm {l:List Int}{v:Int}(h:v∈l):∃ k:Nat,plI l v=k∧l[k]?=some v:=by
 obtain ⟨k,hk⟩:=List.getElem?_of_mem h;unfold plI
 cases e:l.findIdx? (· == v) with
 | none =>
  rw [List.findIdx?_eq_none_iff] at e;have:=e v h;simp at this
 | some i =>
  rw [List.findIdx?_eq_some_iff_getElem] at e;obtain ⟨hi,h1,_⟩:=e;refine ⟨i,rfl,?_⟩;rw [Zg hi]
  simpa using h1
theorem plI_nn {l:List Int}{v:Int}:0≤plI l v↔v∈l:=by
 constructor
 · intro h
   by_cases hm:v∈l
   · exact hm
   · rw [Qdf hm] at h
     omega
 · intro h
   obtain ⟨k,e,_⟩:=Qnm h;omega
set_option maxHeartbeats 400000 in
theorem Qvx (A:Option Addr)(n c:Nat)(l:List Int)(v:Int)(w:World)(h:RdI w A n l)(hn:n≤1000000000) :
 Calls prog 165 #[.slice A n c,.int .i64 v] w fun e w'=>e=.returned (.int .i64 (plI l v))∧w=w':=by
 have HR:=Zh h;have HL:=Zh h.1;clear h
 go_enter func165,ntmps165
 go_wp2_with fail
 go_loop [8] (fun q=>∃ k:Nat,k≤n∧q=.int .i64 k∧∀ j x,j<k→l[j]?=some x→x≠v) (fun q=>n-(intOf q).toNat)
 case atStart=>exact ⟨0,Nat.zero_le _,rfl,fun _ _ h=>absurd h (Nat.not_lt_zero _)⟩
 case round =>
  obtain ⟨k,hk,rfl,hj⟩:=hrel;have HJ:=Zh hj;clear hj
  by_cases hlt:k<n
  · obtain ⟨b,o,x,rfl,hx,hc⟩:=HR.out.at_ hlt
    have i1:(0:Int)≤(k:Int):=by omega
    have i2:(k:Int)<(n:Int):=by omega
    by_cases e:x=v
    · have HP:=Zh (Qwd (e▸hx) HJ.out)
      have e1:(x == v)=true:=by simpa using e
      have e2:(v == x)=true:=by simpa using e.symm
      clear e hx
      go_wp2_with fail
      go_ret
      exact ⟨Qbu HP.out.symm,rfl⟩
    · have e1:(x == v)=false:=by simpa using e
      have e2:(v == x)=false:=by simpa using (fun h:v=x=>e h.symm)
      have HX:=Zh hx;have HE:=Zh e;clear e hx
      go_wp2_with fail
      go_round
      case rel=>exact ⟨k+1,by omega,by go_num,fun j y hj hy=>by
       by_cases ej:j=k
       · subst ej
         rw [HX.out] at hy
         cases hy
         exact HE.out
       · exact HJ.out j y (by omega) hy⟩
      case measure=>simp [intOf];omega
  · obtain rfl:n=k:=by omega
    have HP:=Zh (Qdf (l:=l) (v:=v) (fun hm=>by
     obtain ⟨j,hj⟩:=List.getElem?_of_mem hm;exact HJ.out j v (by rw [←HL.out];exact (Zs hj).1) hj rfl))
    go_wp2_with fail
    go_ret
    exact ⟨Qbu HP.out.symm,rfl⟩
theorem Qpr (A:Option Addr)(n c:Nat)(l:List Int)(v:Int)(w:World)(h:RdI w A n l)(hn:n≤1000000000) :
 Calls prog 150 #[.slice A n c,.int .i64 v] w fun e w'=>e=.returned (.bool (decide (v∈l)))∧w=w':=by
 have HI:=Zh (Qvx A n c l v w h hn);have HD:=Zh (show decide ((0:Int)≤plI l v)=decide (v∈l) by simp [plI_nn])
 clear h
 go_enter func150,ntmps150
 go_wp2_with fail
 with_reducible refine HI.out.mono ?_
 rintro e w' ⟨rfl,rfl⟩;generalize plI l v=p at *
 go_wp2_with fail
 go_ret
 exact ⟨Qav (by rw [←HD.out]),rfl⟩
theorem less_any (a b:Int)(w:World):Calls prog 166 #[.int .i64 a,.int .i64 b] w fun e w'=>e=.returned (.bool (decide (a<b)))∧w=w':=by
 go_enter func166,ntmps166
 go_wp2
 go_ret
 exact ⟨Qav (by simp),rfl⟩
def Qik (l:List Int):Bool:=decide (l.Pairwise (·≤·))
theorem Qlp {l:List Int} (h:∀ (j:Nat) (x y:Int),l[j]?=some x→l[j+1]?=some y→x≤y):Qik l=true:=by
 unfold Qik;rw [decide_eq_true_eq,List.pairwise_iff_getElem];intro i j hi hj hij;obtain ⟨d,rfl⟩:∃ d,j=i+1+d:=⟨j-i-1,by omega⟩;clear hij
 induction d with
 | zero=>exact h i _ _ (Zg hi) (Zg hj)
 | succ d ih =>
  have:=ih (by omega);have:=h (i+1+d) _ _ (Zg (by omega)) (Zg hj);omega
theorem Qqn {l:List Int}{j:Nat}{x y:Int} (h1:l[j]?=some x) (h2:l[j+1]?=some y) (h:y<x):Qik l=false:=by
 unfold Qik;rw [decide_eq_false_iff_not,List.pairwise_iff_getElem];intro hp;have:=hp j (j+1) (Zs h1).1 (Zs h2).1 (by omega);rw [(Zs h1).2,(Zs h2).2] at this;omega
set_option maxHeartbeats 1000000 in
theorem Qnw (A:Option Addr)(n c:Nat)(l:List Int)(w:World)(h:RdI w A n l)(hn:n≤1000000000) :
 Calls prog 151 #[.slice A n c] w fun e w'=>e=.returned (.bool (Qik l))∧∃ k,w'=w.drewN k:=by
 have HR:=Zh h;have HL:=Zh h.1;clear h
 go_enter func151,ntmps151
 go_wp2_with fail
 go_loopw [3] (fun q W=>(∃ d,W=w.drewN d)∧∃ k:Int,-1≤k∧k<n∧q=.int .i64 k∧∀ (j:Nat) x y,k≤j→l[j]?=some x→l[j+1]?=some y→x≤y) (fun q _=>(intOf q).toNat)
 case atStart =>
  refine ⟨⟨0,rfl⟩,(n:Int)-1,by omega,by omega,rfl,fun j x y hj _ hy=>?_⟩;have:=(Zs hy).1;rw [HL.out] at this;omega
 case round =>
  obtain ⟨hd,k,hk,hkn,rfl,hj⟩:=hrel;have HW:=Zh hd;have HJ:=Zh hj;clear hj
  by_cases hlt:0<k
  · obtain ⟨m,rfl⟩:∃ m:Nat,k=(m:Int)+1:=⟨(k-1).toNat,by omega⟩
    obtain ⟨b,o,x,rfl,hx,hc⟩:=HR.out.at_ (show m<n by omega)
    obtain ⟨b',o',y,e,hy,hc'⟩:=HR.out.at_ (show m+1<n by omega)
    cases e
    have hc1:wr.cell? ⟨b,o+m,none⟩=some (.int .i64 x):=by obtain ⟨d,rfl⟩:=hd;exact hc
    have hc2:wr.cell? ⟨b,o+(m+1),none⟩=some (.int .i64 y):=by obtain ⟨d,rfl⟩:=hd;exact hc'
    have HLS:=Zh (fun V=>less_any y x V);have i1:(0:Int)≤(m:Int):=by omega
    have i2:(m:Int)<(n:Int):=by omega
    have i3:(m:Int)+1<(n:Int):=by omega
    have i4:(0:Int)≤(m:Int)+1:=by omega
    have i5:(m:Int)+1-1=(m:Int):=by omega
    have i6:((m:Int)+1).toNat=m+1:=by omega
    have HX:=Zh hx;have HY:=Zh hy;clear hx hy hc hc' hd
    by_cases hyx:y<x
    · have e1:decide (y<x)=true:=by simpa using hyx
      have HS:=Zh (Qqn HX.out HY.out hyx)
      go_wp2_with fail
      go_quiet ((go_at_call 166;exact Qfs (HLS.out _)))
      go_wp2_with fail
      go_ret
      refine ⟨Qav HS.out.symm,?_⟩;obtain ⟨d,e⟩:=HW.out;exact ⟨d+nq,by rw [e,World.drewN_drewN]⟩
    · have e1:decide (y<x)=false:=by simpa using hyx
      have HS:=Zh hyx
      go_wp2_with fail
      go_quiet ((go_at_call 166;exact Qfs (HLS.out _)))
      go_wp2_with fail
      go_roundw
      case rel =>
       obtain ⟨d,e⟩:=HW.out;refine ⟨⟨d+nq,by rw [e,World.drewN_drewN]⟩,(m:Int),by omega,by omega,by first|rfl|go_num,fun j x' y' hj h1 h2=>?_⟩
       by_cases ej:j=m
       · subst ej
         rw [HX.out] at h1;rw [HY.out] at h2
         cases h1
         cases h2
         have:=HS.out;omega
       · exact HJ.out j x' y' (by omega) h1 h2
      case measure=>simp [intOf]
  · have HS:=Zh (Qlp (l:=l) (fun j x y h1 h2=>HJ.out j x y (by omega) h1 h2))
    go_wp2_with fail
    go_ret
    exact ⟨Qav HS.out.symm,HW.out⟩
def Qpv (l:List Int)(n:Nat):List Int:=(List.range n).map (fun c:Nat=>((l.countP (fun x=>x == (c:Int)):Nat):Int))
theorem Qge (l:List Int)(n:Nat):(Qpv l n).length=n:=by simp [Qpv]
theorem Qeg {l:List Int}{n v:Nat}(h:v<n):(Qpv l n)[v]?=some ((l.countP (fun x=>x == (v:Int)):Nat):Int):=by
 unfold Qpv;rw [List.getElem?_map,List.getElem?_range h]
 rfl
theorem Qor (n:Nat):Qcm (Qpv [] n)=Qbc (.int .i64 0) n:=by
 rw [Qdv]
 congr 1
 apply List.ext_getElem?
 intro i
 rcases Nat.lt_or_ge i n with h|h
 · rw [Qeg h];simp [h]
 · rw [List.getElem?_eq_none (by rw [Qge];exact h),List.getElem?_eq_none (by simpa using h)]
theorem Qof {l:List Int}{n v k:Nat} (ha:l[k]?=some (v:Int)) (h:v<n) :
 (Qpv (l.take k) n).set v ((((l.take k).countP (fun x=>x == (v:Int)):Nat):Int)+1)=Qpv (l.take (k+1)) n:=by
 apply List.ext_getElem?
 intro i;rw [List.take_succ_eq_append_getElem (Zs ha).1,(Zs ha).2]
 rcases Nat.lt_or_ge i n with hi|hi
 · rw [Qeg hi,List.countP_append]
   by_cases e:v=i
   · subst e
     rw [List.getElem?_set_self (by rw [Qge];exact h)];simp
   · rw [List.getElem?_set_ne e,Qeg hi]
     have:((v:Int) == (i:Int))=false:=by simp;omega
     simp [this]
 · rw [List.getElem?_eq_none (by rw [List.length_set,Qge];exact hi),List.getElem?_eq_none (by rw [Qge];exact hi)]
theorem Qxr (l:List Int)(k:Nat)(v:Int):(l.take k).countP (fun x=>x == v)≤k:=Nat.le_trans List.countP_le_length (List.length_take_le _ _)
theorem Qvd (l:List Int){n m:Nat}(h:m≤n):(Qpv l n).take m=Qpv l m:=by
 apply List.ext_getElem?
 intro i;rw [List.getElem?_take]
 split
 · rename_i hi
   rw [Qeg (by omega),Qeg hi]
 · rw [List.getElem?_eq_none (by rw [Qge];omega)]
theorem cntI_pos {n:Nat}{l:List Int}(h:Qfb n l):(0:Int) ∉ Qpv l (Qai l).toNat:=by
 intro hm;unfold Qpv at hm;rw [List.mem_map] at hm;obtain ⟨c,hc,e⟩:=hm;rw [List.mem_range] at hc;have hc2:=h.all c (by omega);have:=List.countP_pos_iff (p:=fun x=>x == (c:Int)).2 ⟨(c:Int),hc2,by simp⟩;omega
set_option maxHeartbeats 1000000 in
theorem tally_ok (A:Option Addr)(n c:Nat)(l:List Int)(w:World)(h:RdI w A n l)(hl:Qfb n l)(hn:n≤1000000) :
 Calls prog 111 #[.slice A n c] w fun e w'=>∃ g,e=.returned (.tuple #[.slice (some ⟨g,0,none⟩) (Qai l).toNat n,.bool true])∧RdI w' (some ⟨g,0,none⟩) (Qai l).toNat (Qpv l (Qai l).toNat)∧Below w.heap.size w w':=by
 have HR:=Zh h;have HL:=Zh h.1;have HO:=Zh hl;have hmk:=Qea n (by omega);clear h hl
 go_enter func111,ntmps111
 go_wp2_with fail
 (refine Qag ?_;intro w1 hw1)
 have hb1:Below w.heap.size w w1:=by rw [hw1];exact Qae
 have hB1:Blk w1 w.heap.size 3 (Qcm (Qpv (l.take 0) n)):=by rw [hw1,List.take_zero,Qor];exact Blk.new _ _ _
 clear hw1 hmk
 go_loopw [6,15] (fun m q W=>Below w.heap.size w W∧∃ k:Nat,k≤n∧q=.int .i64 k∧m=.int .i64 (Qai (l.take k)-1)∧Blk W w.heap.size 3 (Qcm (Qpv (l.take k) n))) (fun _ q _=>n-(intOf q).toNat)
 case atStart=>exact ⟨hb1,0,Nat.zero_le _,rfl,rfl,hB1⟩
 case round =>
  clear hb1 hB1;obtain ⟨hbl,k,hk,rfl,rfl,hB⟩:=hrel
  by_cases hlt:k<n
  · obtain ⟨b,o,x,rfl,hx,hc⟩:=HR.out.at_ hlt
    have x0:=HO.out.lo x (Zm hx);have x1:=HO.out.hi x (Zm hx);obtain ⟨v,rfl⟩:∃ v:Nat,x=v:=⟨x.toNat,by omega⟩;have hv:v<n:=by omega
    have hc2:=Zc hbl (Zn _) hc;have HNX:=Zh (Qfz hx);have c1:=hB.cellI (Qeg (l:=l.take k) hv);have c1f:=hB.frozen v;have d1:=Qxr l k (v:Int);have m0:=Qbt (l.take k);have m1:=Qbp (l:=l.take k) (n:=(n:Int)) (fun x hx=>HO.out.hi x (List.mem_of_mem_take hx)) (by omega);have HBN:=Zh (hB.setI (Qof hx hv));have i1:(0:Int)≤(k:Int):=by omega
    have i2:(k:Int)<(n:Int):=by omega
    have i3:(0:Int)≤(v:Int):=by omega
    have i4:(v:Int)<(n:Int):=by omega
    clear hx hc hB;generalize (l.take k).countP (fun x=>x == (v:Int))=p at *;generalize Qai (l.take k)=m at *;have hbn:Below w.heap.size w (wr.setCell ⟨w.heap.size,v,none⟩ (.int .i64 ((p:Int)+1))):=hbl.setCell (Zn _) _;have HM:=Zh (show (if m-1<(v:Int) then (v:Int) else m-1)=max m ((v:Int)+1)-1∧max (m-1) (v:Int)=max m ((v:Int)+1)-1 by constructor <;> (try split) <;> omega)
    go_wp2_with fail
    go_roundw
    case rel=>exact ⟨hbn,k+1,by omega,by go_num,by rw [HNX.out];first|rw [HM.out.1]|rw [HM.out.2],HBN.out⟩
    case measure=>simp [intOf];omega
  · obtain rfl:n=k:=by omega
    rw [List.take_of_length_le (by rw [HL.out];exact Zn _)] at hB;have HE:=Zh (show Qai (l.take n)=Qai l by rw [List.take_of_length_le (by rw [HL.out];exact Zn _)])
    have m0:=Qbt l;have m1:=Qbp (l:=l) (n:=(n:Int)) (fun x hx=>HO.out.hi x hx) (by omega);have HP:=Zh (cntI_pos HO.out);have hrd:=(hB.rdI (n:=n) (Qge l n)).take (m:=(Qai l).toNat) (by omega);rw [Qvd l (by omega)] at hrd;rw [HE.out];obtain ⟨M,hM⟩:∃ M:Nat,Qai l=M:=⟨(Qai l).toNat,by omega⟩;rw [hM] at m0 m1 ⊢;have HMM:=Zh hM;rw [hM,Int.toNat_natCast] at hrd HP;have HCT:=Zh (show Calls prog 150 #[.slice (some ⟨w.heap.size,0,none⟩) M n,.int .i64 0] wr fun e w'=>e=.returned (.bool false)∧wr=w' from (Qpr _ M n _ 0 wr hrd (by omega)).mono (fun e w' h=>⟨by rw [h.1,decide_eq_false HP.out],h.2⟩))
    have HRD:=Zh hrd;clear hM hrd hB;have i1:(M:Int)-1+1=(M:Int):=by omega
    go_wp2_with fail
    with_reducible refine HCT.out.mono ?_
    rintro e w' ⟨rfl,rfl⟩
    go_wp2_with fail
    go_ret2
    exact ⟨w.heap.size,by rw [HMM.out,Int.toNat_natCast];rfl,by rw [HMM.out,Int.toNat_natCast];exact HRD.out,hbl⟩
structure UpI (p l U:List Int) (k:Nat):Prop where
 len:U.length=p.length
 put:∀ (v c:Nat) (y:Int),v<k→p[v]?=some (c:Int)→l[v]?=some y→U[c]?=some y
 got:∀ (c:Nat) (y:Int),U[c]?=some y→y = -1∨∃ v,v<k∧p[v]?=some (c:Int)∧l[v]?=some y
theorem UpI.start (p l:List Int):UpI p l (List.replicate p.length (-1)) 0 :=
 ⟨by simp,fun v _ _ h=>absurd h (Nat.not_lt_zero _),fun c y h=>.inl (by
  have:=Zm h;exact (List.mem_replicate.1 this).2)⟩
theorem UpI.next {p l U:List Int}{k c:Nat}{y:Int}(h:UpI p l U k)(hn:Qdq p l) (hp:p[k]?=some (c:Int)) (hl:l[k]?=some y) (hc:c<p.length):UpI p l (U.set c y) (k+1):=by
 refine ⟨by rw [List.length_set];exact h.len,fun v d z hv h1 h2=>?_,fun d z hz=>?_⟩
 · by_cases e:c=d
   · subst e
     rw [List.getElem?_set_self (by rw [h.len];exact hc)];have q1:=hn v k _ _ _ _ h1 hp h2 hl (Int.le_refl _);have q2:=hn k v _ _ _ _ hp h1 hl h2 (Int.le_refl _)
     congr 1
     omega
   · rw [List.getElem?_set_ne e]
     by_cases ev:v=k
     · subst ev
       rw [hp] at h1
       injection h1 with h1
       omega
     · exact h.put v d z (by omega) h1 h2
 · by_cases e:c=d
   · subst e
     rw [List.getElem?_set_self (by rw [h.len];exact hc)] at hz
     cases hz
     exact .inr ⟨k,by omega,hp,hl⟩
   · rw [List.getElem?_set_ne e] at hz
     rcases h.got d z hz with h1|⟨v,h1,h2⟩
     · exact .inl h1
     · exact .inr ⟨v,by omega,h2⟩
theorem UpI.eq {p l U:List Int}{k c:Nat}{y z:Int}(h:UpI p l U k)(hn:Qdq p l) (hp:p[k]?=some (c:Int)) (hl:l[k]?=some y) (hz:U[c]?=some z):z = -1∨z=y:=by
 rcases h.got c z hz with h1|⟨v,h1,h2,h3⟩
 · exact .inl h1
 · have q1:=hn v k _ _ _ _ h2 hp h3 hl (Int.le_refl _)
   have q2:=hn k v _ _ _ _ hp h2 hl h3 (Int.le_refl _);exact .inr (by omega)
theorem UpI.sorted {p l U:List Int}{n:Nat}(h:UpI p l U n)(hn:Qdq p l)(hp:Qfb n p)(hl:l.length=n):Qik (U.take (Qai p).toNat)=true:=by
 refine Qlp (fun j x y h1 h2=>?_);rw [List.getElem?_take] at h1 h2
 split at h1
 · rename_i q1
   split at h2
   · rename_i q2
     obtain ⟨a,ha⟩:=List.getElem?_of_mem (hp.all j (by omega));obtain ⟨b,hb⟩:=List.getElem?_of_mem (hp.all (j+1) (by omega));have la:=(Zs ha).1;have lb:=(Zs hb).1;rw [hp.len] at la lb;have ea:l[a]?=some l[a]:=Zg (by omega);have eb:l[b]?=some l[b]:=Zg (by omega);have p1:=h.put a j _ la ha ea;have p2:=h.put b (j+1) _ lb hb eb;rw [p1] at h1;rw [p2] at h2
     cases h1
     cases h2
     exact hn a b _ _ _ _ ha hb ea eb (by omega)
   · cases h2
 · cases h1
theorem Qve {n k:Nat}(h:k<n):(List.replicate k (-1:Int) ++List.replicate (n-k) 0).set k (-1)=List.replicate (k+1) (-1) ++List.replicate (n-(k+1)) 0:=by
 rw [List.set_append_right _ _ (by simp)];obtain ⟨m,hm⟩:∃ m,n-k=m+1:=⟨n-k-1,by omega⟩;rw [hm,show n-(k+1)=m by omega,List.replicate_succ' (n:=k)]
 simp [List.replicate_succ]
set_option maxHeartbeats 2000000 in
theorem Qwx (A B:Option Addr)(n c d:Nat)(p l:List Int)(w:World)(h:RdI w A n p)(h2:RdI w B n l)(hp:Qfb n p)(hl:Qfb n l)(hN:Qdq p l)(hn:n≤1000000) :
 Calls prog 112 #[.slice A n c,.slice B n d] w fun e w'=>e=.returned (.bool true)∧Below w.heap.size w w':=by
 have HR:=Zh h;have HR2:=Zh h2;have HL:=Zh h.1;have HO:=Zh hp;have HO2:=Zh hl;have HN:=Zh hN;have hmk:=Qea n (by omega);clear h h2 hl hp hN
 go_enter func112,ntmps112
 go_wp2_with fail
 (refine Qag ?_;intro w1 hw1)
 have hb1:Below w.heap.size w w1:=by rw [hw1];exact Qae
 have hB1:Blk w1 w.heap.size 3 (Qcm (List.replicate 0 (-1) ++List.replicate (n-0) 0)):=by rw [hw1];simp only [List.replicate_zero,List.nil_append,Nat.sub_zero];rw [←Qdv];exact Blk.new _ _ _
 clear hw1 hmk
 go_loopw [15] (fun q W=>Below w.heap.size w W∧∃ k:Nat,k≤n∧q=.int .i64 k∧Blk W w.heap.size 3 (Qcm (List.replicate k (-1) ++List.replicate (n-k) 0))) (fun q _=>n-(intOf q).toNat)
 case atStart=>exact ⟨hb1,0,Nat.zero_le _,rfl,hB1⟩
 case round =>
  clear hb1 hB1;obtain ⟨hbl,k,hk,rfl,hB⟩:=hrel
  by_cases hlt:k<n
  · obtain ⟨z,hz⟩:∃ z,(List.replicate k (-1:Int) ++List.replicate (n-k) 0)[k]?=some z:=⟨_,Zg (by simp;omega)⟩
    have c1:=hB.cellI hz;have c1f:=hB.frozen k;have HB:=Zh (hB.setI (Qve hlt));have hbn:Below w.heap.size w (wr.setCell ⟨w.heap.size,k,none⟩ (.int .i64 (-1))):=hbl.setCell (Zn _) _;have i1:(0:Int)≤(k:Int):=by omega
    have i2:(k:Int)<(n:Int):=by omega
    clear hB hz hbl
    go_wp2_with fail
    go_roundw
    case rel=>exact ⟨hbn,k+1,by omega,by go_num,HB.out⟩
    case measure=>simp [intOf];omega
  · obtain rfl:n=k:=by omega
    rw [Nat.sub_self,List.replicate_zero,List.append_nil] at hB;have HU:=Zh (show UpI p l (List.replicate n (-1)) 0 from by have:=UpI.start p l;rw [HL.out] at this;exact this)
    go_wp2_with fail
    go_loopw [7,24] (fun m q W=>Below w.heap.size w W∧∃ (k:Nat) (U:List Int),k≤n∧q=.int .i64 k∧m=.int .i64 (Qai (p.take k)-1)∧Blk W w.heap.size 3 (Qcm U)∧UpI p l U k) (fun _ q _=>n-(intOf q).toNat)
    case atStart=>exact ⟨hbl,0,_,Nat.zero_le _,rfl,rfl,hB,HU.out⟩
    case round =>
     clear hbl hB HU;obtain ⟨hbl,k,U,hk,rfl,rfl,hB,hU⟩:=hrel;have HU:=Zh hU
     by_cases hlt2:k<n
     · obtain ⟨b,o,x,rfl,hx,hc⟩:=HR.out.at_ hlt2
       obtain ⟨b2,o2,y,rfl,hy,hcy⟩:=HR2.out.at_ hlt2;have x0:=HO.out.lo x (Zm hx);have x1:=HO.out.hi x (Zm hx);have y0:=HO2.out.lo y (Zm hy);obtain ⟨v,rfl⟩:∃ v:Nat,x=v:=⟨x.toNat,by omega⟩;have hv:v<n:=by omega
       have hc2:=Zc hbl (Zn _) hc;have hcy2:=Zc hbl (Zn _) hcy;have HNX:=Zh (Qfz hx);obtain ⟨z,hz⟩:∃ z,U[v]?=some z:=⟨_,Zg (by rw [hU.len,HL.out];exact hv)⟩;have hzz:=hU.eq HN.out hx hy hz;have c1:=hB.cellI hz;have c1f:=hB.frozen v;have m0:=Qbt (p.take k);have m1:=Qbp (l:=p.take k) (n:=(n:Int)) (fun x hx=>HO.out.hi x (List.mem_of_mem_take hx)) (by omega);have HBN:=Zh (hB.setI (l':=U.set v y) rfl);have HUN:=Zh (hU.next HN.out hx hy (by rw [HL.out];exact hv));have i1:(0:Int)≤(k:Int):=by omega
       have i2:(k:Int)<(n:Int):=by omega
       have i3:(0:Int)≤(v:Int):=by omega
       have i4:(v:Int)<(n:Int):=by omega
       have hbn:Below w.heap.size w (wr.setCell ⟨w.heap.size,v,none⟩ (.int .i64 y)):=hbl.setCell (Zn _) _;clear hx hy hc hcy hB hU hz HU hbl;generalize Qai (p.take k)=m at *;have HM:=Zh (show (if m-1<(v:Int) then (v:Int) else m-1)=max m ((v:Int)+1)-1∧max (m-1) (v:Int)=max m ((v:Int)+1)-1 by constructor <;> (try split) <;> omega)
       by_cases hz0:z ≥ 0
       · obtain rfl:z=y:=by omega
         clear hzz
         go_wp2_with fail
         go_quiet (fail)
         go_wp2_with fail
         go_roundw
         case rel=>exact ⟨Qas hbn _,k+1,_,by omega,by go_num,by rw [HNX.out];first|rw [HM.out.1]|rw [HM.out.2],HBN.out.drewN _,HUN.out⟩
         case measure=>simp [intOf];omega
       · obtain rfl:z = -1:=by omega
         clear hzz hz0
         go_wp2_with fail
         go_quiet (fail)
         go_wp2_with fail
         go_roundw
         case rel=>exact ⟨Qas hbn _,k+1,_,by omega,by go_num,by rw [HNX.out];first|rw [HM.out.1]|rw [HM.out.2],HBN.out.drewN _,HUN.out⟩
         case measure=>simp [intOf];omega
     · obtain rfl:n=k:=by omega
       have HE:=Zh (show Qai (p.take n)=Qai p by rw [List.take_of_length_le (by rw [HL.out];exact Zn _)])
       have m0:=Qbt p;have m1:=Qbp (l:=p) (n:=(n:Int)) (fun x hx=>HO.out.hi x hx) (by omega);have HS:=Zh (hU.sorted HN.out HO.out HO2.out.len);have hrd:=(hB.rdI (n:=n) (by rw [hU.len];exact HL.out)).take (m:=(Qai p).toNat) (by omega);rw [HE.out];obtain ⟨M,hM⟩:∃ M:Nat,Qai p=M:=⟨(Qai p).toNat,by omega⟩;rw [hM] at m0 m1 ⊢;rw [hM,Int.toNat_natCast] at hrd HS;have HCT:=Zh (show Calls prog 151 #[.slice (some ⟨w.heap.size,0,none⟩) M n] wr fun e w'=>e=.returned (.bool true)∧∃ k,w'=wr.drewN k from (Qnw _ M n _ wr hrd (by omega)).mono (fun e w' h=>⟨by rw [h.1,HS.out],h.2⟩))
       have i1:(M:Int)-1+1=(M:Int):=by omega
       clear hM hrd hB hU HE HU
       go_wp2_with fail
       with_reducible refine HCT.out.mono ?_
       rintro e w' ⟨rfl,nq,hw'⟩;have hbe:Below w.heap.size w w':=by rw [hw'];exact Qas hbl _
       clear hw'
       go_wp2_with fail
       go_ret
       exact ⟨rfl,hbe⟩
set_option maxHeartbeats 2000000 in
set_option maxRecDepth 20000 in
theorem Qis (Q:Option Addr)(n L cq:Nat) (ls:List (List Int)) (w:World) (h:RdT w Q L ls) (hP:Qcg n ls) (hn:n≤4096) :
 Calls prog 74 #[.int .i64 n,.agg #[.slice Q L cq],.slice none 0 0] w fun e w'=>e=.returned .nilIface∧Below w.heap.size w w':=by
 have HT:=Zh h;have HP:=Zh hP;have l1:1≤L:=by rw [←h.1];exact hP.l1
 have l6:L≤6:=by rw [←h.1];exact hP.l6
 have HLEN:=Zh h.1;clear h hP;have j1:((L:Int) == 0)=false:=by simp;omega
 have j2:¬(n:Int)<0:=by omega
 have j3:¬(n:Int) > 4096:=by omega
 have j4:¬(L:Int) > 6:=by omega
 have j5:¬L=0:=by omega
 go_enter func74,ntmps74
 go_wp2_with fail
 (refine Qag ?_;intro w1 hw1)
 have hb1:Below w.heap.size w w1:=by rw [hw1];exact Qae
 have hQ:Blk w1 w.heap.size 89 #[.slice Q L cq]:=by rw [hw1];exact Qay
 have hBd:Blk w1 (w.heap.size+1) 93 #[.slice none 0 0]:=by rw [hw1];exact Qay
 clear hw1
 go_loopw [45] (fun q W=>Below w.heap.size w W∧Blk W w.heap.size 89 #[.slice Q L cq]∧Blk W (w.heap.size+1) 93 #[.slice none 0 0]∧∃ i:Nat,i≤L∧q=.int .i64 i) (fun q _=>L-(intOf q).toNat)
 case atStart=>exact ⟨hb1,hQ,hBd,0,Nat.zero_le _,rfl⟩
 case round =>
  clear hb1 hQ hBd;obtain ⟨hbl,hQ,hBd,i,hi,rfl⟩:=hrel
  by_cases hlt:i<L
  · obtain ⟨b,o,A,m,c,l,rfl,hl,hc,hr,q1,q2⟩:=HT.out.at_ hlt
    have hlo:=HP.out.lvl l (Zm hl);obtain rfl:m=n:=by rw [←hr.1];exact hlo.len
    have hcc:=Zc hbl (Zn _) hc;have HTL:=Zh (show ∀ V,Below w.heap.size w V→Calls prog 111 #[.slice A m c] V fun e w'=>∃ g,e=.returned (.tuple #[.slice (some ⟨g,0,none⟩) (Qai l).toNat m,.bool true])∧Below V.heap.size V w' from fun V hV=>(tally_ok A m c l V (hr.below hV) hlo (by omega)).mono (fun e w' ⟨g,h1,_,h3⟩=>⟨g,h1,h3⟩))
    have HR:=Zh hr;have HLO:=Zh hlo;have HLL:=Zh hl;have i1:(0:Int)≤(i:Int):=by omega
    have i2:(i:Int)<(L:Int):=by omega
    clear hr hlo hl hc q1
    by_cases hi0:i=0
    · have e0:¬((i:Int) > 0):=by omega
      have e00:¬(0<i):=by omega
      clear hi0
      go_wp2_with fail
      (refine Qac ?_;intro w2 hw2)
      have hb2:Below wr.heap.size wr w2:=by rw [hw2];exact Qae
      have hX:Blk w2 wr.heap.size 3 #[.int .i64 (i:Int)]:=by rw [hw2];exact Qay
      clear hw2;have hbl2:=Zb hbl hb2;with_reducible refine (HTL.out w2 hbl2).mono ?_
      rintro e w3 ⟨g,rfl,hb3⟩;have hX3:=(hX.below hb3 hX.lt).cell 0;have hQ3:=(hQ.below hb2 hQ.lt).below hb3 (hQ.below hb2 hQ.lt).lt;have hB3:=(hBd.below hb2 hBd.lt).below hb3 (hBd.below hb2 hBd.lt).lt;have z1:=hQ3.lt;have z2:=hB3.lt;have y1:=hQ3.cell 0;have y2:=hB3.cell 0;simp only [List.getElem?_toArray,List.getElem?_cons_zero] at hX3 y1 y2;have hbl3:=Zb hbl2 hb3;clear hX hQ hBd hcc hb2 hb3
      go_wp2_with fail
      go_roundw
      case rel=>exact ⟨hbl3,hQ3,hB3,i+1,by omega,by go_num⟩
      case measure=>simp [intOf];omega
    · obtain ⟨j,rfl⟩:∃ j,i=j+1:=⟨i-1,by omega⟩
      obtain ⟨b',o',A',m',c',l',e,hl',hc',hr',q1',q2'⟩:=HT.out.at_ (show j<L by omega)
      cases e
      have hlo':=HP.out.lvl l' (Zm hl');obtain rfl:m'=m:=by rw [←hr'.1];exact hlo'.len
      have hne:=HP.out.nest j l' l hl' HLL.out;have HNS:=Zh (show ∀ V,Below w.heap.size w V→Calls prog 112 #[.slice A' m' c',.slice A m' c] V fun e w'=>e=.returned (.bool true)∧Below V.heap.size V w' from fun V hV=>Qwx A' A m' c' c l' l V (hr'.below hV) (HR.out.below hV) hlo' HLO.out hne (by omega))
      have hcc':=Zc hbl (Zn _) hc';have i3:((j:Int)+1)-1=(j:Int):=by omega
      have i4:(0:Int)≤(j:Int):=by omega
      have i5:(j:Int)<(L:Int):=by omega
      clear hr' hlo' hl' hc' q1' hne hi0
      go_wp2_with fail
      (refine Qac ?_;intro w2 hw2)
      have hb2:Below wr.heap.size wr w2:=by rw [hw2];exact Qae
      have hX:Blk w2 wr.heap.size 3 #[.int .i64 ((j:Int)+1)]:=by rw [hw2];exact Qay
      clear hw2;have hbl2:=Zb hbl hb2;with_reducible refine (HTL.out w2 hbl2).mono ?_
      rintro e w3 ⟨g,rfl,hb3⟩;have hbX3:=hX.below hb3 hX.lt;have hX3:=hbX3.cell 0;have hQ3:=(hQ.below hb2 hQ.lt).below hb3 (hQ.below hb2 hQ.lt).lt;have hB3:=(hBd.below hb2 hBd.lt).below hb3 (hBd.below hb2 hBd.lt).lt;have y1:=hQ3.cell 0;simp only [List.getElem?_toArray,List.getElem?_cons_zero] at hX3 y1;have hbl3:=Zb hbl2 hb3;have d1:=Zc hb3 (Zn _) (Zc hb2 (Zn _) hcc);have d2:=Zc hb3 (Zn _) (Zc hb2 (Zn _) hcc');clear hX hQ hBd hcc hb2 hb3 hcc'
      go_wp2_with fail
      with_reducible refine (HNS.out w3 hbl3).mono ?_
      rintro e w4 ⟨rfl,hb4⟩;have hX4:=(hbX3.below hb4 hbX3.lt).cell 0;have hQ4:=hQ3.below hb4 hQ3.lt;have hB4:=hB3.below hb4 hB3.lt;have y2:=hB4.cell 0;simp only [List.getElem?_toArray,List.getElem?_cons_zero] at hX4 y2;have hbl4:=Zb hbl3 hb4;clear d1 d2 hX3 y1 hbX3 hQ3 hB3 hb4
      go_wp2_with fail
      go_roundw
      case rel=>exact ⟨hbl4,hQ4,hB4,j+1+1,by omega,by go_num⟩
      case measure=>simp [intOf];omega
  · obtain rfl:L=i:=by omega
    go_wp2_with fail
    go_ret
    exact ⟨rfl,hbl⟩
end Go.Proofs.YthoagdpakddbdaaGreatDoor
