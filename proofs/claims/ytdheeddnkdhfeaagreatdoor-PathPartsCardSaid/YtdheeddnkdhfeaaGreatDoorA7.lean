/- Parts of the proof: Ls, Pc, Nt10. -/
import Derived.Test.YtdheeddnkdhfeaaGreatDoorA6
import Derived.Lib.SliceRun
namespace Go.Proofs.YtdheeddnkdhfeaaGreatDoor
open Go.RowKit Go.Proofs.Tryz
attribute [local go_sem ↓] Go.wp_at_zero Go.wp_at_succ
def plI (l:List Int)(v:Int):Int:=match l.findIdx? (· == v) with|some i=>(i:Int)|none=>-1
theorem Qnf {l:List Int}{v:Int}{k:Nat} (h:l[k]?=some v) (hj:∀ j x,j<k→l[j]?=some x→x≠v):plI l v=k:=by
 unfold plI;have hk:=(Zs h).1
 have:l.findIdx? (· == v)=some k:=by
  rw [List.findIdx?_eq_some_iff_getElem];refine ⟨hk,by simpa using (Zs h).2,fun j hjk=>?_⟩
  simpa using hj j _ hjk (Zg (by omega))
 rw [this]
theorem Qct {l:List Int}{v:Int}(h:v ∉ l):plI l v = -1:=by
 unfold plI
 have:l.findIdx? (· == v)=none:=by
  rw [List.findIdx?_eq_none_iff];intro x hx;have:x≠v:=fun e=>h (e▸hx)
  simpa using this
 rw [this]
theorem Qha {l:List Int}{v:Int}(h:v∈l):∃ k:Nat,plI l v=k∧l[k]?=some v:=by
 obtain ⟨k,hk⟩:=Yr h;unfold plI
 cases e:l.findIdx? (· == v) with
 | none =>
  rw [List.findIdx?_eq_none_iff] at e;have:=e v h;simp at this
 | some i =>
  rw [List.findIdx?_eq_some_iff_getElem] at e;obtain ⟨hi,h1,_⟩:=e;refine ⟨i,rfl,?_⟩;rw [Zg hi]
  simpa using h1
theorem plI_nn {l:List Int}{v:Int}:0≤plI l v↔v∈l:=by
 constructor
 · intro h
   by_cases hm:v∈l
   · exact hm
   · rw [Qct hm] at h
     omega
 · intro h
   obtain ⟨k,e,_⟩:=Qha h;omega
set_option maxHeartbeats 400000 in
theorem Qxf (A:Option Addr)(n c:Nat)(l:List Int)(v:Int)(w:World)(h:RdI w A n l)(hn:n≤1000000000) :
 Calls prog 198 #[.slice A n c,.int .i64 v] w fun e w'=>e=.returned (.int .i64 (plI l v))∧w=w':=by
 have HR:=Zh h;have HL:=Zh h.1;clear h
 go_enter func198,ntmps198
 go_wp2_with fail
 go_loop [8] (fun q=>∃ k:Nat,k≤n∧q=.int .i64 k∧∀ j x,j<k→l[j]?=some x→x≠v) (fun q=>n-(intOf q).toNat)
 case atStart=>exact ⟨0,Nat.zero_le _,rfl,fun _ _ h=>absurd h (Nat.not_lt_zero _)⟩
 case round =>
  exact Kaf
theorem Qpc (A:Option Addr)(n c:Nat)(l:List Int)(v:Int)(w:World)(h:RdI w A n l)(hn:n≤1000000000) :
 Calls prog 190 #[.slice A n c,.int .i64 v] w fun e w'=>e=.returned (.bool (decide (v∈l)))∧w=w':=by
 have HI:=Zh (Qxf A n c l v w h hn);have HD:=Zh (show decide ((0:Int)≤plI l v)=decide (v∈l) by simp [plI_nn])
 clear h
 go_enter func190,ntmps190
 go_wp2_with fail
 with_reducible refine HI.out.mono ?_
 rintro e w' ⟨rfl,rfl⟩;generalize plI l v=p at *
 go_wp2_with fail
 go_ret
 exact ⟨Qbf (by rw [←HD.out]),rfl⟩
theorem less_any (a b:Int)(w:World):Calls prog 161 #[.int .i64 a,.int .i64 b] w fun e w'=>e=.returned (.bool (decide (a<b)))∧w=w':=by
 go_enter func161,ntmps161
 go_wp2
 go_ret
 exact ⟨Qbf (by simp),rfl⟩
def Qhz (l:List Int):Bool:=decide (l.Pairwise (·≤·))
theorem Qlr {l:List Int} (h:∀ (j:Nat) (x y:Int),l[j]?=some x→l[j+1]?=some y→x≤y):Qhz l=true:=by
 unfold Qhz;rw [decide_eq_true_eq,List.pairwise_iff_getElem];intro i j hi hj hij;obtain ⟨d,rfl⟩:∃ d,j=i+1+d:=⟨j-i-1,by omega⟩;clear hij
 induction d with
 | zero=>exact h i _ _ (Zg hi) (Zg hj)
 | succ d ih =>
  have:=ih (by omega);have:=h (i+1+d) _ _ (Zg (by omega)) (Zg hj);omega
theorem Qrq {l:List Int}{j:Nat}{x y:Int} (h1:l[j]?=some x) (h2:l[j+1]?=some y) (h:y<x):Qhz l=false:=by
 unfold Qhz;rw [decide_eq_false_iff_not,List.pairwise_iff_getElem];intro hp;have:=hp j (j+1) (Zs h1).1 (Zs h2).1 (by omega);rw [(Zs h1).2,(Zs h2).2] at this;omega
set_option maxHeartbeats 1000000 in
theorem Qnz (A:Option Addr)(n c:Nat)(l:List Int)(w:World)(h:RdI w A n l)(hn:n≤1000000000) :
 Calls prog 191 #[.slice A n c] w fun e w'=>e=.returned (.bool (Qhz l))∧∃ k,w'=w.drewN k:=by
 have HR:=Zh h;have HL:=Zh h.1;clear h
 go_enter func191,ntmps191
 go_wp2_with fail
 go_loopw [3] (fun q W=>(∃ d,W=w.drewN d)∧∃ k:Int,-1≤k∧k<n∧q=.int .i64 k∧∀ (j:Nat) x y,k≤j→l[j]?=some x→l[j+1]?=some y→x≤y) (fun q _=>(intOf q).toNat)
 case atStart =>
  refine ⟨⟨0,rfl⟩,(n:Int)-1,by omega,by omega,rfl,fun j x y hj _ hy=>?_⟩;have:=(Zs hy).1;rw [HL.out] at this;omega
 case round =>
  obtain ⟨hd,k,hk,hkn,rfl,hj⟩:=hrel;have HW:=Zh hd;have HJ:=Zh hj;clear hj
  by_cases hlt:0<k
  · obtain ⟨m,rfl⟩:∃ m:Nat,k=(m:Int)+1:=⟨(k-1).toNat,by omega⟩
    obtain ⟨b,o,x,rfl,hx,hc⟩:=HR.out.at_ (show m<n by omega)
    obtain ⟨b',o',y,e,hy,hc'⟩:=HR.out.at_ (show m+1<n by omega)
    cases e
    have hc1:wr.cell? ⟨b,o+m,none⟩=some (.int .i64 x):=by obtain ⟨d,rfl⟩:=hd;exact hc
    have hc2:wr.cell? ⟨b,o+(m+1),none⟩=some (.int .i64 y):=by obtain ⟨d,rfl⟩:=hd;exact hc'
    have HLS:=Zh (fun V=>less_any y x V);have i1:(0:Int)≤(m:Int):=by omega
    have i2:(m:Int)<(n:Int):=by omega
    have i3:(m:Int)+1<(n:Int):=by omega
    have i4:(0:Int)≤(m:Int)+1:=by omega
    have i5:(m:Int)+1-1=(m:Int):=by omega
    have i6:((m:Int)+1).toNat=m+1:=by omega
    have HX:=Zh hx;have HY:=Zh hy;clear hx hy hc hc' hd
    by_cases hyx:y<x
    · have e1:decide (y<x)=true:=by simpa using hyx
      have HS:=Zh (Qrq HX.out HY.out hyx)
      go_wp2_with fail
      go_quiet ((go_at_call 161;exact Qgn (HLS.out _)))
      go_wp2_with fail
      go_ret
      refine ⟨Qbf HS.out.symm,?_⟩;obtain ⟨d,e⟩:=HW.out;exact ⟨d+nq,by rw [e,World.drewN_drewN]⟩
    · have e1:decide (y<x)=false:=by simpa using hyx
      have HS:=Zh hyx
      go_wp2_with fail
      go_quiet ((go_at_call 161;exact Qgn (HLS.out _)))
      go_wp2_with fail
      go_roundw
      case rel =>
       obtain ⟨d,e⟩:=HW.out;refine ⟨⟨d+nq,by rw [e,World.drewN_drewN]⟩,(m:Int),by omega,by omega,by first|rfl|go_num,fun j x' y' hj h1 h2=>?_⟩
       by_cases ej:j=m
       · subst ej
         rw [HX.out] at h1;rw [HY.out] at h2
         cases h1
         cases h2
         have:=HS.out;omega
       · exact HJ.out j x' y' (by omega) h1 h2
      case measure=>simp [intOf]
  · have HS:=Zh (Qlr (l:=l) (fun j x y h1 h2=>HJ.out j x y (by omega) h1 h2))
    go_wp2_with fail
    go_ret
    exact ⟨Qbf HS.out.symm,HW.out⟩
def Qpv (l:List Int)(n:Nat):List Int:=(List.range n).map (fun c:Nat=>((l.countP (fun x=>x == (c:Int)):Nat):Int))
theorem Qgi (l:List Int)(n:Nat):(Qpv l n).length=n:=by simp [Qpv]
theorem Qei {l:List Int}{n v:Nat}(h:v<n):(Qpv l n)[v]?=some ((l.countP (fun x=>x == (v:Int)):Nat):Int):=by
 unfold Qpv;rw [Yt,List.getElem?_range h]
 rfl
theorem Qow (n:Nat):Qcj (Qpv [] n)=Qbp (.int .i64 0) n:=by
 rw [Qcf]
 congr 1
 apply List.ext_getElem?
 intro i
 rcases Nat.lt_or_ge i n with h|h
 · rw [Qei h];simp [h]
 · rw [Yd (by rw [Qgi];exact h),Yd (by simpa using h)]
theorem Qon {l:List Int}{n v k:Nat} (ha:l[k]?=some (v:Int)) (h:v<n) :
 (Qpv (l.take k) n).set v ((((l.take k).countP (fun x=>x == (v:Int)):Nat):Int)+1)=Qpv (l.take (k+1)) n:=by
 apply List.ext_getElem?
 intro i;rw [Yf (Zs ha).1,(Zs ha).2]
 rcases Nat.lt_or_ge i n with hi|hi
 · rw [Qei hi,List.countP_append]
   by_cases e:v=i
   · subst e
     rw [Yg (by rw [Qgi];exact h)];simp
   · rw [Yh e,Qei hi]
     have:((v:Int) == (i:Int))=false:=by simp;omega
     simp [this]
 · rw [Yd (by rw [Yq,Qgi];exact hi),Yd (by rw [Qgi];exact hi)]
theorem Qvo (l:List Int)(k:Nat)(v:Int):(l.take k).countP (fun x=>x == v)≤k:=Yx List.countP_le_length (List.length_take_le _ _)
theorem Qvu (l:List Int){n m:Nat}(h:m≤n):(Qpv l n).take m=Qpv l m:=by
 apply List.ext_getElem?
 intro i;rw [List.getElem?_take]
 split
 · rename_i hi
   rw [Qei (by omega),Qei hi]
 · rw [Yd (by rw [Qgi];omega)]
theorem cntI_pos {n:Nat}{l:List Int}(h:Qfx n l):(0:Int) ∉ Qpv l (Qar l).toNat:=by
 intro hm;unfold Qpv at hm;rw [List.mem_map] at hm;obtain ⟨c,hc,e⟩:=hm;rw [List.mem_range] at hc;have hc2:=h.all c (by omega);have:=List.countP_pos_iff (p:=fun x=>x == (c:Int)).2 ⟨(c:Int),hc2,by simp⟩;omega
set_option maxHeartbeats 1000000 in
theorem tally_ok (A:Option Addr)(n c:Nat)(l:List Int)(w:World)(h:RdI w A n l)(hl:Qfx n l)(hn:n≤1000000) :
 Calls prog 179 #[.slice A n c] w fun e w'=>∃ g,e=.returned (.tuple #[.slice (some ⟨g,0,none⟩) (Qar l).toNat n,.bool true])∧RdI w' (some ⟨g,0,none⟩) (Qar l).toNat (Qpv l (Qar l).toNat)∧Below w.heap.size w w':=by
 have HR:=Zh h;have HL:=Zh h.1;have HO:=Zh hl;have hmk:=Qde n (by omega);clear h hl
 go_enter func179,ntmps179
 go_wp2_with fail
 (refine Qai ?_;intro w1 hw1)
 have hb1:Below w.heap.size w w1:=by rw [hw1];exact Qah
 have hB1:Blk w1 w.heap.size 3 (Qcj (Qpv (l.take 0) n)):=by rw [hw1,List.take_zero,Qow];exact Blk.new _ _ _
 clear hw1 hmk
 go_loopw [6,15] (fun m q W=>Below w.heap.size w W∧∃ k:Nat,k≤n∧q=.int .i64 k∧m=.int .i64 (Qar (l.take k)-1)∧Blk W w.heap.size 3 (Qcj (Qpv (l.take k) n))) (fun _ q _=>n-(intOf q).toNat)
 case atStart=>exact ⟨hb1,0,Nat.zero_le _,rfl,rfl,hB1⟩
 case round =>
  clear hb1 hB1;obtain ⟨hbl,k,hk,rfl,rfl,hB⟩:=hrel
  by_cases hlt:k<n
  · obtain ⟨b,o,x,rfl,hx,hc⟩:=HR.out.at_ hlt
    have x0:=HO.out.lo x (Zm hx);have x1:=HO.out.hi x (Zm hx);obtain ⟨v,rfl⟩:∃ v:Nat,x=v:=⟨x.toNat,by omega⟩;have hv:v<n:=by omega
    have hc2:=Zc hbl (Zn _) hc;have HNX:=Zh (Qgg hx);have c1:=hB.cellI (Qei (l:=l.take k) hv);have c1f:=hB.frozen v;have d1:=Qvo l k (v:Int);have m0:=Qcc (l.take k);have m1:=Qch (l:=l.take k) (n:=(n:Int)) (fun x hx=>HO.out.hi x (List.mem_of_mem_take hx)) (by omega);have HBN:=Zh (hB.setI (Qon hx hv));have i1:(0:Int)≤(k:Int):=by omega
    have i2:(k:Int)<(n:Int):=by omega
    have i3:(0:Int)≤(v:Int):=by omega
    have i4:(v:Int)<(n:Int):=by omega
    clear hx hc hB;generalize (l.take k).countP (fun x=>x == (v:Int))=p at *;generalize Qar (l.take k)=m at *;have hbn:Below w.heap.size w (wr.setCell ⟨w.heap.size,v,none⟩ (.int .i64 ((p:Int)+1))):=hbl.setCell (Zn _) _;have HM:=Zh (show (if m-1<(v:Int) then (v:Int) else m-1)=max m ((v:Int)+1)-1∧max (m-1) (v:Int)=max m ((v:Int)+1)-1 by constructor <;> (try split) <;> omega)
    go_wp2_with fail
    go_roundw
    case rel=>exact ⟨hbn,k+1,by omega,by go_num,by rw [HNX.out];first|rw [HM.out.1]|rw [HM.out.2],HBN.out⟩
    case measure=>simp [intOf];omega
  · obtain rfl:n=k:=by omega
    rw [Ye (by rw [HL.out];exact Zn _)] at hB;have HE:=Zh (show Qar (l.take n)=Qar l by rw [Ye (by rw [HL.out];exact Zn _)])
    have m0:=Qcc l;have m1:=Qch (l:=l) (n:=(n:Int)) (fun x hx=>HO.out.hi x hx) (by omega);have HP:=Zh (cntI_pos HO.out);have hrd:=(hB.rdI (n:=n) (Qgi l n)).take (m:=(Qar l).toNat) (by omega);rw [Qvu l (by omega)] at hrd;rw [HE.out];obtain ⟨M,hM⟩:∃ M:Nat,Qar l=M:=⟨(Qar l).toNat,by omega⟩;rw [hM] at m0 m1 ⊢;have HMM:=Zh hM;rw [hM,Yl] at hrd HP;have HCT:=Zh (show Calls prog 190 #[.slice (some ⟨w.heap.size,0,none⟩) M n,.int .i64 0] wr fun e w'=>e=.returned (.bool false)∧wr=w' from (Qpc _ M n _ 0 wr hrd (by omega)).mono (fun e w' h=>⟨by rw [h.1,decide_eq_false HP.out],h.2⟩))
    have HRD:=Zh hrd;clear hM hrd hB;have i1:(M:Int)-1+1=(M:Int):=by omega
    go_wp2_with fail
    with_reducible refine HCT.out.mono ?_
    rintro e w' ⟨rfl,rfl⟩
    go_wp2_with fail
    go_ret2
    exact ⟨w.heap.size,by rw [HMM.out,Yl];rfl,by rw [HMM.out,Yl];exact HRD.out,hbl⟩
structure UpI (p l U:List Int) (k:Nat):Prop where
 len:U.length=p.length
 put:∀ (v c:Nat) (y:Int),v<k→p[v]?=some (c:Int)→l[v]?=some y→U[c]?=some y
 got:∀ (c:Nat) (y:Int),U[c]?=some y→y = -1∨∃ v,v<k∧p[v]?=some (c:Int)∧l[v]?=some y
theorem UpI.start (p l:List Int):UpI p l (List.replicate p.length (-1)) 0 :=
 ⟨by simp,fun v _ _ h=>absurd h (Nat.not_lt_zero _),fun c y h=>.inl (by
  have:=Zm h;exact (List.mem_replicate.1 this).2)⟩
theorem UpI.next {p l U:List Int}{k c:Nat}{y:Int}(h:UpI p l U k)(hn:Qdo p l) (hp:p[k]?=some (c:Int)) (hl:l[k]?=some y) (hc:c<p.length):UpI p l (U.set c y) (k+1):=by
 refine ⟨by rw [Yq];exact h.len,fun v d z hv h1 h2=>?_,fun d z hz=>?_⟩
 · by_cases e:c=d
   · subst e
     rw [Yg (by rw [h.len];exact hc)];have q1:=hn v k _ _ _ _ h1 hp h2 hl (Int.le_refl _);have q2:=hn k v _ _ _ _ hp h1 hl h2 (Int.le_refl _)
     congr 1
     omega
   · rw [Yh e]
     by_cases ev:v=k
     · subst ev
       rw [hp] at h1
       injection h1 with h1
       omega
     · exact h.put v d z (by omega) h1 h2
 · by_cases e:c=d
   · subst e
     rw [Yg (by rw [h.len];exact hc)] at hz
     cases hz
     exact .inr ⟨k,by omega,hp,hl⟩
   · rw [Yh e] at hz
     rcases h.got d z hz with h1|⟨v,h1,h2⟩
     · exact .inl h1
     · exact .inr ⟨v,by omega,h2⟩
theorem UpI.eq {p l U:List Int}{k c:Nat}{y z:Int}(h:UpI p l U k)(hn:Qdo p l) (hp:p[k]?=some (c:Int)) (hl:l[k]?=some y) (hz:U[c]?=some z):z = -1∨z=y:=by
 rcases h.got c z hz with h1|⟨v,h1,h2,h3⟩
 · exact .inl h1
 · have q1:=hn v k _ _ _ _ h2 hp h3 hl (Int.le_refl _)
   have q2:=hn k v _ _ _ _ hp h2 hl h3 (Int.le_refl _);exact .inr (by omega)
theorem UpI.sorted {p l U:List Int}{n:Nat}(h:UpI p l U n)(hn:Qdo p l)(hp:Qfx n p)(hl:l.length=n):Qhz (U.take (Qar p).toNat)=true:=by
 refine Qlr (fun j x y h1 h2=>?_);rw [List.getElem?_take] at h1 h2
 split at h1
 · rename_i q1
   split at h2
   · rename_i q2
     obtain ⟨a,ha⟩:=Yr (hp.all j (by omega));obtain ⟨b,hb⟩:=Yr (hp.all (j+1) (by omega));have la:=(Zs ha).1;have lb:=(Zs hb).1;rw [hp.len] at la lb;have ea:l[a]?=some l[a]:=Zg (by omega);have eb:l[b]?=some l[b]:=Zg (by omega);have p1:=h.put a j _ la ha ea;have p2:=h.put b (j+1) _ lb hb eb;rw [p1] at h1;rw [p2] at h2
     cases h1
     cases h2
     exact hn a b _ _ _ _ ha hb ea eb (by omega)
   · cases h2
 · cases h1
theorem Qws {n k:Nat}(h:k<n):(List.replicate k (-1:Int) ++List.replicate (n-k) 0).set k (-1)=List.replicate (k+1) (-1) ++List.replicate (n-(k+1)) 0:=by
 rw [List.set_append_right _ _ (by simp)];obtain ⟨m,hm⟩:∃ m,n-k=m+1:=⟨n-k-1,by omega⟩;rw [hm,show n-(k+1)=m by omega,List.replicate_succ' (n:=k)]
 simp [List.replicate_succ]
set_option maxHeartbeats 2000000 in
theorem Qxp (A B:Option Addr)(n c d:Nat)(p l:List Int)(w:World)(h:RdI w A n p)(h2:RdI w B n l)(hp:Qfx n p)(hl:Qfx n l)(hN:Qdo p l)(hn:n≤1000000) :
 Calls prog 180 #[.slice A n c,.slice B n d] w fun e w'=>e=.returned (.bool true)∧Below w.heap.size w w':=by
 have HR:=Zh h;have HR2:=Zh h2;have HL:=Zh h.1;have HO:=Zh hp;have HO2:=Zh hl;have HN:=Zh hN;have hmk:=Qde n (by omega);clear h h2 hl hp hN
 go_enter func180,ntmps180
 go_wp2_with fail
 (refine Qai ?_;intro w1 hw1)
 have hb1:Below w.heap.size w w1:=by rw [hw1];exact Qah
 have hB1:Blk w1 w.heap.size 3 (Qcj (List.replicate 0 (-1) ++List.replicate (n-0) 0)):=by rw [hw1];simp only [List.replicate_zero,List.nil_append,Nat.sub_zero];rw [←Qcf];exact Blk.new _ _ _
 clear hw1 hmk
 go_loopw [15] (fun q W=>Below w.heap.size w W∧∃ k:Nat,k≤n∧q=.int .i64 k∧Blk W w.heap.size 3 (Qcj (List.replicate k (-1) ++List.replicate (n-k) 0))) (fun q _=>n-(intOf q).toNat)
 case atStart=>exact ⟨hb1,0,Nat.zero_le _,rfl,hB1⟩
 case round =>
  clear hb1 hB1;obtain ⟨hbl,k,hk,rfl,hB⟩:=hrel
  by_cases hlt:k<n
  · obtain ⟨z,hz⟩:∃ z,(List.replicate k (-1:Int) ++List.replicate (n-k) 0)[k]?=some z:=⟨_,Zg (by simp;omega)⟩
    have c1:=hB.cellI hz;have c1f:=hB.frozen k;have HB:=Zh (hB.setI (Qws hlt));have hbn:Below w.heap.size w (wr.setCell ⟨w.heap.size,k,none⟩ (.int .i64 (-1))):=hbl.setCell (Zn _) _;have i1:(0:Int)≤(k:Int):=by omega
    have i2:(k:Int)<(n:Int):=by omega
    clear hB hz hbl
    go_wp2_with fail
    go_roundw
    case rel=>exact ⟨hbn,k+1,by omega,by go_num,HB.out⟩
    case measure=>simp [intOf];omega
  · obtain rfl:n=k:=by omega
    rw [Yy,List.replicate_zero,List.append_nil] at hB;have HU:=Zh (show UpI p l (List.replicate n (-1)) 0 from by have:=UpI.start p l;rw [HL.out] at this;exact this)
    go_wp2_with fail
    go_loopw [7,24] (fun m q W=>Below w.heap.size w W∧∃ (k:Nat) (U:List Int),k≤n∧q=.int .i64 k∧m=.int .i64 (Qar (p.take k)-1)∧Blk W w.heap.size 3 (Qcj U)∧UpI p l U k) (fun _ q _=>n-(intOf q).toNat)
    case atStart=>exact ⟨hbl,0,_,Nat.zero_le _,rfl,rfl,hB,HU.out⟩
    case round =>
     clear hbl hB HU;obtain ⟨hbl,k,U,hk,rfl,rfl,hB,hU⟩:=hrel;have HU:=Zh hU
     by_cases hlt2:k<n
     · obtain ⟨b,o,x,rfl,hx,hc⟩:=HR.out.at_ hlt2
       obtain ⟨b2,o2,y,rfl,hy,hcy⟩:=HR2.out.at_ hlt2;have x0:=HO.out.lo x (Zm hx);have x1:=HO.out.hi x (Zm hx);have y0:=HO2.out.lo y (Zm hy);obtain ⟨v,rfl⟩:∃ v:Nat,x=v:=⟨x.toNat,by omega⟩;have hv:v<n:=by omega
       have hc2:=Zc hbl (Zn _) hc;have hcy2:=Zc hbl (Zn _) hcy;have HNX:=Zh (Qgg hx);obtain ⟨z,hz⟩:∃ z,U[v]?=some z:=⟨_,Zg (by rw [hU.len,HL.out];exact hv)⟩;have hzz:=hU.eq HN.out hx hy hz;have c1:=hB.cellI hz;have c1f:=hB.frozen v;have m0:=Qcc (p.take k);have m1:=Qch (l:=p.take k) (n:=(n:Int)) (fun x hx=>HO.out.hi x (List.mem_of_mem_take hx)) (by omega);have HBN:=Zh (hB.setI (l':=U.set v y) rfl);have HUN:=Zh (hU.next HN.out hx hy (by rw [HL.out];exact hv));have i1:(0:Int)≤(k:Int):=by omega
       have i2:(k:Int)<(n:Int):=by omega
       have i3:(0:Int)≤(v:Int):=by omega
       have i4:(v:Int)<(n:Int):=by omega
       have hbn:Below w.heap.size w (wr.setCell ⟨w.heap.size,v,none⟩ (.int .i64 y)):=hbl.setCell (Zn _) _;clear hx hy hc hcy hB hU hz HU hbl;generalize Qar (p.take k)=m at *;have HM:=Zh (show (if m-1<(v:Int) then (v:Int) else m-1)=max m ((v:Int)+1)-1∧max (m-1) (v:Int)=max m ((v:Int)+1)-1 by constructor <;> (try split) <;> omega)
       by_cases hz0:z ≥ 0
       · obtain rfl:z=y:=by omega
         clear hzz
         exact Kbh
       · obtain rfl:z = -1:=by omega
         clear hzz hz0
         exact Kbh
     · obtain rfl:n=k:=by omega
       have HE:=Zh (show Qar (p.take n)=Qar p by rw [Ye (by rw [HL.out];exact Zn _)])
       have m0:=Qcc p;have m1:=Qch (l:=p) (n:=(n:Int)) (fun x hx=>HO.out.hi x hx) (by omega);have HS:=Zh (hU.sorted HN.out HO.out HO2.out.len);have hrd:=(hB.rdI (n:=n) (by rw [hU.len];exact HL.out)).take (m:=(Qar p).toNat) (by omega);rw [HE.out];obtain ⟨M,hM⟩:∃ M:Nat,Qar p=M:=⟨(Qar p).toNat,by omega⟩;rw [hM] at m0 m1 ⊢;rw [hM,Yl] at hrd HS;have HCT:=Zh (show Calls prog 191 #[.slice (some ⟨w.heap.size,0,none⟩) M n] wr fun e w'=>e=.returned (.bool true)∧∃ k,w'=wr.drewN k from (Qnz _ M n _ wr hrd (by omega)).mono (fun e w' h=>⟨by rw [h.1,HS.out],h.2⟩))
       have i1:(M:Int)-1+1=(M:Int):=by omega
       clear hM hrd hB hU HE HU
       go_wp2_with fail
       with_reducible refine HCT.out.mono ?_
       rintro e w' ⟨rfl,nq,hw'⟩;have hbe:Below w.heap.size w w':=by rw [hw'];exact Qax hbl _
       clear hw'
       go_wp2_with fail
       go_ret
       exact ⟨rfl,hbe⟩
set_option maxHeartbeats 2000000 in
set_option maxRecDepth 20000 in
theorem Qir (Q:Option Addr)(n L cq:Nat) (ls:List (List Int)) (w:World) (h:RdT w Q L ls) (hP:Qaw n ls) (hn:n≤4096) :
 Calls prog 140 #[.int .i64 n,.agg #[.slice Q L cq],.slice none 0 0] w fun e w'=>e=.returned .nilIface∧Below w.heap.size w w':=by
 have HT:=Zh h;have HP:=Zh hP;have l1:1≤L:=by rw [←h.1];exact hP.l1
 have l6:L≤6:=by rw [←h.1];exact hP.l6
 have HLEN:=Zh h.1;clear h hP;have j1:((L:Int) == 0)=false:=by simp;omega
 have j2:¬(n:Int)<0:=by omega
 have j3:¬(n:Int) > 4096:=by omega
 have j4:¬(L:Int) > 6:=by omega
 have j5:¬L=0:=by omega
 go_enter func140,ntmps140
 go_wp2_with fail
 (refine Qai ?_;intro w1 hw1)
 have hb1:Below w.heap.size w w1:=by rw [hw1];exact Qah
 have hQ:Blk w1 w.heap.size 132 #[.slice Q L cq]:=by rw [hw1];exact Qbh
 have hBd:Blk w1 (w.heap.size+1) 61 #[.slice none 0 0]:=by rw [hw1];exact Qbh
 clear hw1
 go_loopw [45] (fun q W=>Below w.heap.size w W∧Blk W w.heap.size 132 #[.slice Q L cq]∧Blk W (w.heap.size+1) 61 #[.slice none 0 0]∧∃ i:Nat,i≤L∧q=.int .i64 i) (fun q _=>L-(intOf q).toNat)
 case atStart=>exact ⟨hb1,hQ,hBd,0,Nat.zero_le _,rfl⟩
 case round =>
  clear hb1 hQ hBd;obtain ⟨hbl,hQ,hBd,i,hi,rfl⟩:=hrel
  by_cases hlt:i<L
  · obtain ⟨b,o,A,m,c,l,rfl,hl,hc,hr,q1,q2⟩:=HT.out.at_ hlt
    have hlo:=HP.out.lvl l (Zm hl);obtain rfl:m=n:=by rw [←hr.1];exact hlo.len
    have hcc:=Zc hbl (Zn _) hc;have HTL:=Zh (show ∀ V,Below w.heap.size w V→Calls prog 179 #[.slice A m c] V fun e w'=>∃ g,e=.returned (.tuple #[.slice (some ⟨g,0,none⟩) (Qar l).toNat m,.bool true])∧Below V.heap.size V w' from fun V hV=>(tally_ok A m c l V (hr.below hV) hlo (by omega)).mono (fun e w' ⟨g,h1,_,h3⟩=>⟨g,h1,h3⟩))
    have HR:=Zh hr;have HLO:=Zh hlo;have HLL:=Zh hl;have i1:(0:Int)≤(i:Int):=by omega
    have i2:(i:Int)<(L:Int):=by omega
    clear hr hlo hl hc q1
    by_cases hi0:i=0
    · have e0:¬((i:Int) > 0):=by omega
      have e00:¬(0<i):=by omega
      clear hi0
      go_wp2_with fail
      (refine Qae ?_;intro w2 hw2)
      have hb2:Below wr.heap.size wr w2:=by rw [hw2];exact Qah
      have hX:Blk w2 wr.heap.size 3 #[.int .i64 (i:Int)]:=by rw [hw2];exact Qbh
      clear hw2;have hbl2:=Zb hbl hb2;with_reducible refine (HTL.out w2 hbl2).mono ?_
      rintro e w3 ⟨g,rfl,hb3⟩;have hX3:=(hX.below hb3 hX.lt).cell 0;have hQ3:=(hQ.below hb2 hQ.lt).below hb3 (hQ.below hb2 hQ.lt).lt;have hB3:=(hBd.below hb2 hBd.lt).below hb3 (hBd.below hb2 hBd.lt).lt;have z1:=hQ3.lt;have z2:=hB3.lt;have y1:=hQ3.cell 0;have y2:=hB3.cell 0;simp only [Yo,Yn] at hX3 y1 y2;have hbl3:=Zb hbl2 hb3;clear hX hQ hBd hcc hb2 hb3
      go_wp2_with fail
      go_roundw
      case rel=>exact ⟨hbl3,hQ3,hB3,i+1,by omega,by go_num⟩
      case measure=>simp [intOf];omega
    · obtain ⟨j,rfl⟩:∃ j,i=j+1:=⟨i-1,by omega⟩
      obtain ⟨b',o',A',m',c',l',e,hl',hc',hr',q1',q2'⟩:=HT.out.at_ (show j<L by omega)
      cases e
      have hlo':=HP.out.lvl l' (Zm hl');obtain rfl:m'=m:=by rw [←hr'.1];exact hlo'.len
      have hne:=HP.out.nest j l' l hl' HLL.out;have HNS:=Zh (show ∀ V,Below w.heap.size w V→Calls prog 180 #[.slice A' m' c',.slice A m' c] V fun e w'=>e=.returned (.bool true)∧Below V.heap.size V w' from fun V hV=>Qxp A' A m' c' c l' l V (hr'.below hV) (HR.out.below hV) hlo' HLO.out hne (by omega))
      have hcc':=Zc hbl (Zn _) hc';have i3:((j:Int)+1)-1=(j:Int):=by omega
      have i4:(0:Int)≤(j:Int):=by omega
      have i5:(j:Int)<(L:Int):=by omega
      clear hr' hlo' hl' hc' q1' hne hi0
      go_wp2_with fail
      (refine Qae ?_;intro w2 hw2)
      have hb2:Below wr.heap.size wr w2:=by rw [hw2];exact Qah
      have hX:Blk w2 wr.heap.size 3 #[.int .i64 ((j:Int)+1)]:=by rw [hw2];exact Qbh
      clear hw2;have hbl2:=Zb hbl hb2;with_reducible refine (HTL.out w2 hbl2).mono ?_
      rintro e w3 ⟨g,rfl,hb3⟩;have hbX3:=hX.below hb3 hX.lt;have hX3:=hbX3.cell 0;have hQ3:=(hQ.below hb2 hQ.lt).below hb3 (hQ.below hb2 hQ.lt).lt;have hB3:=(hBd.below hb2 hBd.lt).below hb3 (hBd.below hb2 hBd.lt).lt;have y1:=hQ3.cell 0;simp only [Yo,Yn] at hX3 y1;have hbl3:=Zb hbl2 hb3;have d1:=Zc hb3 (Zn _) (Zc hb2 (Zn _) hcc);have d2:=Zc hb3 (Zn _) (Zc hb2 (Zn _) hcc');clear hX hQ hBd hcc hb2 hb3 hcc'
      go_wp2_with fail
      with_reducible refine (HNS.out w3 hbl3).mono ?_
      rintro e w4 ⟨rfl,hb4⟩;have hX4:=(hbX3.below hb4 hbX3.lt).cell 0;have hQ4:=hQ3.below hb4 hQ3.lt;have hB4:=hB3.below hb4 hB3.lt;have y2:=hB4.cell 0;simp only [Yo,Yn] at hX4 y2;have hbl4:=Zb hbl3 hb4;clear d1 d2 hX3 y1 hbX3 hQ3 hB3 hb4
      go_wp2_with fail
      go_roundw
      case rel=>exact ⟨hbl4,hQ4,hB4,j+1+1,by omega,by go_num⟩
      case measure=>simp [intOf];omega
  · obtain rfl:L=i:=by omega
    go_wp2_with fail
    go_ret
    exact ⟨rfl,hbl⟩
theorem infoVert:(Tryz.prog.info? 243).map (fun i=>(i.zero,i.size,i.bytes))=some (some (.agg #[.int .i64 0,.int .i64 0,.int .i64 0]),3,24):=by kernel_rfl
theorem infoArc:(Tryz.prog.info? 186).map (fun i=>(i.zero,i.size,i.bytes))=some (some (.agg #[.int .i64 0,.int .i64 0,.int .i64 0]),3,24):=by kernel_rfl
theorem Qpp:(Tryz.prog.info? 193).map (fun i=>(i.zero,i.size,i.bytes))=some (some (.agg #[.int .i64 0,.int .i64 0,.slice none 0 0]),3,40):=by kernel_rfl
theorem Qjq {L:List Tri}{k:Nat}{p:Tri} (h:L[k]?=some p):Qau (L.take (k+1))=Qau (L.take k) ++[.int .i64 p.1,.int .i64 p.2.1,.int .i64 p.2.2]:=by
 have hlt:=(Zs h).1;have e:=(Zs h).2;rw [Yf hlt,e,Qdz]
 rfl
theorem Qds (x y z:Int):∀ u∈[Value.int .i64 x,Value.int .i64 y,Value.int .i64 z],u.oneCell'=true:=by
 intro u hu;simp at hu
 rcases hu with rfl|rfl|rfl <;> rfl
theorem Own.apart {w:World}{B' s' n' c':Nat}{e':TypeId}{A A':Option Addr}{xs':List Value}(h:∀ g,Qab A=some g→g<B')(h':Own w B' e' s' A' n' c' xs'):Qab A=none∨Qab A≠Qab A':=by
 cases hA:Qab A with
 | none=>exact .inl rfl
 | some g =>
  refine .inr (fun e=>?_);have:=(h'.lt g e.symm).1;have:=h g hA;omega
--BODY
set_option maxHeartbeats 1000000 in
set_option maxRecDepth 20000 in
theorem Qxu (A B C:Option Addr)(n m k c d e:Nat)(N:Qam)(w:World)(h:Qce w A B C n m k N)(hn:n≤1000000)(hm:m≤1000000)(hk:k≤1000000)(hc:∀ t∈N.ts,t.costs.length≤1000000) :
 Calls prog 88 #[.agg #[.slice A n c,.slice B m d,.slice C k e]] w fun r w'=>∃ A' B' C' c' d' e',r=.returned (.agg #[.slice A' n c',.slice B' m d',.slice C' k e'])∧Qce w' A' B' C' n m k N∧Below w.heap.size w w':=by
 have HV:=Zh h.1;have HA:=Zh h.2.1;have HY:=Zh h.2.2;have HC:=Zh hc;clear h hc
 go_enter func88,ntmps88
 go_wp2_with fail
 (refine Qai ?_;intro w1 hw1)
 have hb1:Below w.heap.size w w1:=by rw [hw1];exact Qah
 have hJ:Blk w1 w.heap.size 26 #[.slice A n c,.slice B m d,.slice C k e]:=by rw [hw1];exact Qbh
 have hR:Blk w1 (w.heap.size+1) 177 #[.slice none 0 0,.slice none 0 0,.slice none 0 0]:=by rw [hw1];exact Qbh
 have hK0:Blk w1 (w.heap.size+2) 177 #[.slice none 0 0,.slice none 0 0,.slice none 0 0]:=by rw [hw1];exact Qbh
 clear hw1
 go_loopw [4] (fun i W=>Below w.heap.size w W∧Blk W w.heap.size 26 #[.slice A n c,.slice B m d,.slice C k e]∧Blk W (w.heap.size+1) 177 #[.slice none 0 0,.slice none 0 0,.slice none 0 0]∧∃ (j:Nat) (A3:Option Addr) (c3:Nat),j≤n∧i=.int .i64 j∧Blk W (w.heap.size+2) 177 #[.slice A3 j c3,.slice none 0 0,.slice none 0 0]∧Own W (w.heap.size+3) 243 3 A3 j c3 (Qau (N.vs.take j))) (fun i _=>n-(intOf i).toNat)
 case atStart=>exact ⟨hb1,hJ,hR,0,none,0,Nat.zero_le _,rfl,hK0,by simpa [Qau] using Own.nil _ _ _ _⟩
 case round =>
  clear hb1 hJ hR hK0;obtain ⟨hbl,hJ,hR,j,A3,c3,hj,rfl,hK0,hown⟩:=hrel;obtain ⟨j0,j1,j2⟩:=hJ.three;obtain ⟨k0,k1,k2⟩:=hK0.three
  by_cases hlt:j<n
  · obtain ⟨sb,so,x,y,z,rfl,hx,cx,cy,cz⟩:=HV.out.at_ hlt
    have HN:=Zh (Qjq hx);have dx:=Zc hbl (Zn _) cx;have dy:=Zc hbl (Zn _) cy;have dz:=Zc hbl (Zn _) cz
    have HSX:=Zh (show ∀ V,Below (w.heap.size+2) wr V→V.cell? ⟨w.heap.size,0,none⟩=some (.slice (some ⟨sb,so,none⟩) n c)∧V.cell? ⟨sb,so+j*3,none⟩=some (.int .i64 x)∧V.cell? ⟨sb,so+j*3+1,none⟩=some (.int .i64 y)∧V.cell? ⟨sb,so+j*3+2,none⟩=some (.int .i64 z) from
     fun V hb=>⟨(hb.cell (by simp only;omega)).trans j0,(hb.cell (by have:=Qaj cx;simp only at this ⊢;omega)).trans dx,(hb.cell (by have:=Qaj cx;simp only at this ⊢;omega)).trans dy,(hb.cell (by have:=Qaj cx;simp only at this ⊢;omega)).trans dz⟩)
    have i3:(0:Int)≤(j:Int):=by omega
    have i4:(j:Int)<(n:Int):=by omega
    have hsz:w.heap.size+3≤wr.heap.size:=by have:=hK0.lt;omega
    clear hx cx cy cz dx dy dz j1 j2 k0 k1 k2
    go_wp2_with fail
    refine wp_region_held_drew (S:=fun V=>Below (w.heap.size+2) wr V) (by kernel_rfl) (Zr _ _).drew (fun _=>?_);refine tz 0 14 ?_;refine tz 2 16 ?_;refine tz 3 17 ?_;refine tz 4 18 ?_;refine tz 5 19 ?_;refine tz 6 20 ?_;refine tz 7 21 ?_;refine tz 8 22 ?_;refine tz 9 23 ?_;refine tz 10 24 ?_;refine tz 11 25 ?_;refine tz 12 26 ?_;refine tz 13 27 ?_;refine tz 14 28 ?_;refine tz 15 29 ?_;refine tz 16 30 ?_;refine tz 17 31 ?_;refine tz 18 32 ?_;refine tz 19 33 ?_;refine tz 20 34 ?_;refine wpAnyH_ready (rs:=[1,21]) (by kernel_rfl) (by simp) ?_;refine AllReadyH.cons (o:=_) rfl (fun K hK=>?_) (AllReadyH.cons (o:=_) rfl (fun K hK=>?_) AllReadyH.nil)
    focus
     have k3a:=hK0.three;obtain ⟨k3a,k3b,k3c⟩:=k3a;go_simp;refine hK.out _ _ (Zr _ _).drew (fun _=>?_);clear hK K k3a k3b k3c;refine Zk 21 (fun K hK=>?_);go_simp;refine hK.out _ _ (((Zr _ _).alloc (by omega) _).drew) (fun _=>?_);clear hK K
    rotate_left
    focus
     go_simp;refine hK.out _ _ (((Zr _ _).alloc (by omega) _).drew) (fun _=>?_);clear hK K;have k3a:=fun o=>(hK0.alloc o).three.1
     have k3b:=fun o=>(hK0.alloc o).three.2.1
     refine Zk 1 (fun K hK=>?_);go_simp;refine hK.out _ _ (((Zr _ _).alloc (by omega) _).drew) (fun _=>?_);clear hK K k3a k3b
    all_goals
     have hW:∃ W,W=(wr.alloc (.cells #[.int .i64 x,.int .i64 y,.int .i64 z] 243)).drew:=⟨_,rfl⟩;obtain ⟨W,hW⟩:=hW;rw [←hW];have hownW:Own W (w.heap.size+3) 243 3 A3 j c3 (Qau (N.vs.take j)):=by rw [hW];exact (by repeat (first|assumption|apply Own.drewN|apply Own.drew|apply Own.alloc))
     skip
     have hrdW:Rds W 3 (some ⟨wr.heap.size,0,none⟩) 1 [.int .i64 x,.int .i64 y,.int .i64 z]:=by rw [hW];exact (Blk.new wr 243 #[.int .i64 x,.int .i64 y,.int .i64 z]).rds rfl
     have hbW:Below (w.heap.size+2) wr W:=by rw [hW];exact ((Zr _ _).alloc (by omega) _).drew
     have hblW:Below w.heap.size w W:=by rw [hW];exact Qah
     have hJW:Blk W w.heap.size 26 #[.slice (some ⟨sb,so,none⟩) n c,.slice B m d,.slice C k e]:=by rw [hW];exact Qne
     have hRW:Blk W (w.heap.size+1) 177 #[.slice none 0 0,.slice none 0 0,.slice none 0 0]:=by rw [hW];exact Qne
     have hKW:Blk W (w.heap.size+2) 177 #[.slice A3 j c3,.slice none 0 0,.slice none 0 0]:=by rw [hW];exact Qne
     have hWsz:(w.heap.size+3)≤W.heap.size:=by rw [hW];simp;omega
     clear hW;refine Zk 22 (fun K hK=>?_);with_reducible refine Qay (some 36) rfl rfl (.tmp 15) (.tmp 35) 173 rfl 243 _ 3 24 infoVert underlying173 rfl (by omega) rfl rfl hownW hrdW (Qds x y z) (by omega) (by omega) hWsz ?_
     intro A' c' w' hown' hg _;have hb5:Below (w.heap.size+2) wr w':=Zo hbW hg (hownW.mono (by omega)) (by omega);have hb6:Below w.heap.size w w':=Zo hblW hg (hownW.mono (by omega)) (by omega);have hJ':=hJW.grown hg (hownW.ne (by omega));have hR':=hRW.grown hg (hownW.ne (by omega));have hK':=hKW.grown hg (hownW.ne (by omega))
     skip
     clear hownW hrdW hbW hblW hJW hRW hKW hg;refine hK.out _ _ hb5 (fun _=>?_);clear hK K;simp only [Act.put,Yi,Yj,Yk];refine tz 23 37 ?_;have k3':=hK'.three;have kf':=hK'.frozen 0;obtain ⟨k3a,k3b,k3c⟩:=k3';refine Zk 24 (fun K hK=>?_);go_simp;refine hK.out _ _ (hb5.setCell (by simp only;omega) _) (fun _=>?_);clear hK K;refine Zd ?_;have HO:=Zh (hown'.far (Qad w' (w.heap.size+2) 0 (.slice A' (j+1) c')) (.inr (hown'.ne (by omega))));have HK2:=Zh (hK'.set_ 0 (.slice A' (j+1) c'))
     skip
     clear hown' hK' k3a k3b k3c kf'
     go_wp2_with fail
     go_roundw
     case rel=>exact ⟨Qah,Qne,Qne,j+1,A',c',by omega,by go_num,HK2.out,by rw [HN.out];exact HO.out⟩
     case measure=>simp [intOf];omega
  · obtain rfl:n=j:=by omega
    obtain ⟨A1,rfl⟩:∃ A1,A1=A3:=⟨_,rfl⟩;obtain ⟨c1,rfl⟩:∃ c1,c1=c3:=⟨_,rfl⟩;rw [Ye (by rw [HV.out.1];exact Zn _)] at hown;obtain ⟨w2,hw2⟩:∃ w2,w2=wr:=⟨_,rfl⟩;subst hw2;have hz2:w.heap.size+3≤w2.heap.size:=by have:=hK0.lt;omega
    have HLT:=Zh (fun g hg=>(hown.lt g hg).2)
    go_wp2_with fail
    go_loopw [5] (fun i W=>w2.heap.size≤W.heap.size∧Below w.heap.size w W∧Blk W w.heap.size 26 #[.slice A n c,.slice B m d,.slice C k e]∧Blk W (w.heap.size+1) 177 #[.slice none 0 0,.slice none 0 0,.slice none 0 0]∧Own W (w.heap.size+3) 243 3 A1 n c1 (Qau N.vs)∧∃ (j:Nat) (A3:Option Addr) (c3:Nat),j≤m∧i=.int .i64 j∧Blk W (w.heap.size+2) 177 #[.slice A1 n c1,.slice A3 j c3,.slice none 0 0]∧Own W w2.heap.size 186 3 A3 j c3 (Qau (N.ar.take j))) (fun i _=>m-(intOf i).toNat)
    case atStart=>exact ⟨Zn _,hbl,hJ,hR,hown,0,none,0,Nat.zero_le _,rfl,hK0,by simpa [Qau] using Own.nil _ _ _ _⟩
    case round =>
     clear hbl hJ hR hown hK0 j0 j1 j2 k0 k1 k2 hj;obtain ⟨hszr,hbl,hJ,hR,hVo,j,A3,c3,hj,rfl,hK0,hown⟩:=hrel;obtain ⟨j0,j1,j2⟩:=hJ.three;obtain ⟨k0,k1,k2⟩:=hK0.three
     by_cases hlt:j<m
     · obtain ⟨sb,so,x,y,z,rfl,hx,cx,cy,cz⟩:=HA.out.at_ hlt
       have HN:=Zh (Qjq hx);have dx:=Zc hbl (Zn _) cx;have dy:=Zc hbl (Zn _) cy;have dz:=Zc hbl (Zn _) cz
       have HSX:=Zh (show ∀ V,Below (w.heap.size+2) wr V→V.cell? ⟨w.heap.size,1,none⟩=some (.slice (some ⟨sb,so,none⟩) m d)∧V.cell? ⟨sb,so+j*3,none⟩=some (.int .i64 x)∧V.cell? ⟨sb,so+j*3+1,none⟩=some (.int .i64 y)∧V.cell? ⟨sb,so+j*3+2,none⟩=some (.int .i64 z) from
        fun V hb=>⟨(hb.cell (by simp only;omega)).trans j1,(hb.cell (by have:=Qaj cx;simp only at this ⊢;omega)).trans dx,(hb.cell (by have:=Qaj cx;simp only at this ⊢;omega)).trans dy,(hb.cell (by have:=Qaj cx;simp only at this ⊢;omega)).trans dz⟩)
       have i3:(0:Int)≤(j:Int):=by omega
       have i4:(j:Int)<(m:Int):=by omega
       have hsz:w2.heap.size≤wr.heap.size:=hszr;clear hx cx cy cz dx dy dz j0 j2 k0 k1 k2
       go_wp2_with fail
       refine wp_region_held_drew (S:=fun V=>Below (w.heap.size+2) wr V) (by kernel_rfl) (Zr _ _).drew (fun _=>?_);refine tz 0 45 ?_;refine tz 2 47 ?_;refine tz 3 48 ?_;refine tz 4 49 ?_;refine tz 5 50 ?_;refine tz 6 51 ?_;refine tz 7 52 ?_;refine tz 8 53 ?_;refine tz 9 54 ?_;refine tz 10 55 ?_;refine tz 11 56 ?_;refine tz 12 57 ?_;refine tz 13 58 ?_;refine tz 14 59 ?_;refine tz 15 60 ?_;refine tz 16 61 ?_;refine tz 17 62 ?_;refine tz 18 63 ?_;refine tz 19 64 ?_;refine tz 20 65 ?_;refine wpAnyH_ready (rs:=[1,21]) (by kernel_rfl) (by simp) ?_;refine AllReadyH.cons (o:=_) rfl (fun K hK=>?_) (AllReadyH.cons (o:=_) rfl (fun K hK=>?_) AllReadyH.nil)
       focus
        have k3a:=hK0.three;obtain ⟨k3a,k3b,k3c⟩:=k3a;go_simp;refine hK.out _ _ (Zr _ _).drew (fun _=>?_);clear hK K k3a k3b k3c;refine Zk 21 (fun K hK=>?_);go_simp;refine hK.out _ _ (((Zr _ _).alloc (by omega) _).drew) (fun _=>?_);clear hK K
       rotate_left
       focus
        go_simp;refine hK.out _ _ (((Zr _ _).alloc (by omega) _).drew) (fun _=>?_);clear hK K;have k3a:=fun o=>(hK0.alloc o).three.1
        have k3b:=fun o=>(hK0.alloc o).three.2.1
        refine Zk 1 (fun K hK=>?_);go_simp;refine hK.out _ _ (((Zr _ _).alloc (by omega) _).drew) (fun _=>?_);clear hK K k3a k3b
       all_goals
        have hW:∃ W,W=(wr.alloc (.cells #[.int .i64 x,.int .i64 y,.int .i64 z] 186)).drew:=⟨_,rfl⟩;obtain ⟨W,hW⟩:=hW;rw [←hW];have hownW:Own W w2.heap.size 186 3 A3 j c3 (Qau (N.ar.take j)):=by rw [hW];exact (by repeat (first|assumption|apply Own.drewN|apply Own.drew|apply Own.alloc))
        have hVW:Own W (w.heap.size+3) 243 3 A1 n c1 (Qau N.vs):=by rw [hW];exact (by repeat (first|assumption|apply Own.drewN|apply Own.drew|apply Own.alloc))
        have hrdW:Rds W 3 (some ⟨wr.heap.size,0,none⟩) 1 [.int .i64 x,.int .i64 y,.int .i64 z]:=by rw [hW];exact (Blk.new wr 186 #[.int .i64 x,.int .i64 y,.int .i64 z]).rds rfl
        have hbW:Below (w.heap.size+2) wr W:=by rw [hW];exact ((Zr _ _).alloc (by omega) _).drew
        have hblW:Below w.heap.size w W:=by rw [hW];exact Qah
        have hJW:Blk W w.heap.size 26 #[.slice A n c,.slice (some ⟨sb,so,none⟩) m d,.slice C k e]:=by rw [hW];exact Qne
        have hRW:Blk W (w.heap.size+1) 177 #[.slice none 0 0,.slice none 0 0,.slice none 0 0]:=by rw [hW];exact Qne
        have hKW:Blk W (w.heap.size+2) 177 #[.slice A1 n c1,.slice A3 j c3,.slice none 0 0]:=by rw [hW];exact Qne
        have hWsz:w2.heap.size≤W.heap.size:=by rw [hW];simp;omega
        clear hW;refine Zk 22 (fun K hK=>?_);with_reducible refine Qay (some 67) rfl rfl (.tmp 46) (.tmp 66) 174 rfl 186 _ 3 24 infoArc underlying174 rfl (by omega) rfl rfl hownW hrdW (Qds x y z) (by omega) (by omega) hWsz ?_
        intro A' c' w' hown' hg _;have hb5:Below (w.heap.size+2) wr w':=Zo hbW hg (hownW.mono (by omega)) (by omega);have hb6:Below w.heap.size w w':=Zo hblW hg (hownW.mono (by omega)) (by omega);have hJ':=hJW.grown hg (hownW.ne (by omega));have hR':=hRW.grown hg (hownW.ne (by omega));have hK':=hKW.grown hg (hownW.ne (by omega));have hV':=hVW.far hg (Own.apart HLT.out hownW);clear hVW;clear hownW hrdW hbW hblW hJW hRW hKW hg;refine hK.out _ _ hb5 (fun _=>?_);clear hK K;simp only [Act.put,Yi,Yj,Yk];refine tz 23 68 ?_;have k3':=hK'.three;have kf':=hK'.frozen 1;obtain ⟨k3a,k3b,k3c⟩:=k3';refine Zk 24 (fun K hK=>?_);go_simp;refine hK.out _ _ (hb5.setCell (by simp only;omega) _) (fun _=>?_);clear hK K;refine Zd ?_;have HO:=Zh (hown'.far (Qad w' (w.heap.size+2) 1 (.slice A' (j+1) c')) (.inr (hown'.ne (by omega))));have HK2:=Zh (hK'.set_ 1 (.slice A' (j+1) c'));have HV2:=Zh (hV'.far (Qad w' (w.heap.size+2) 1 (.slice A' (j+1) c')) (.inr (hV'.ne (by omega))));clear hV';clear hown' hK' k3a k3b k3c kf'
        go_wp2_with fail
        go_roundw
        case rel=>exact ⟨(by have:=hb5.size;simp [World.setCell];omega),Qah,Qne,Qne,HV2.out,j+1,A',c',by omega,by go_num,HK2.out,by rw [HN.out];exact HO.out⟩
        case measure=>simp [intOf];omega
     · obtain rfl:m=j:=by omega
       obtain ⟨A3',rfl⟩:∃ A3',A3'=A3:=⟨_,rfl⟩;obtain ⟨c3',rfl⟩:∃ c3',c3'=c3:=⟨_,rfl⟩;rw [Ye (by rw [HA.out.1];exact Zn _)] at hown;obtain ⟨w3,hw3⟩:∃ w3,w3=wr:=⟨_,rfl⟩;subst hw3;have HLV:=HLT;clear HLT;have HLT:=Zh (show ∀ g,Qab A1=some g→g<w3.heap.size from fun g hg=>by have:=HLV.out g hg;omega)
       have HLA:=Zh (fun g hg=>(hown.lt g hg).2);clear HLV;have hz3:w.heap.size+3≤w3.heap.size:=by omega
       go_wp2_with fail
       go_loopw [6] (fun i W=>w3.heap.size≤W.heap.size∧Below w.heap.size w W∧Blk W w.heap.size 26 #[.slice A n c,.slice B m d,.slice C k e]∧Blk W (w.heap.size+1) 177 #[.slice none 0 0,.slice none 0 0,.slice none 0 0]∧Own W (w.heap.size+3) 243 3 A1 n c1 (Qau N.vs)∧Own W w2.heap.size 186 3 A3' m c3' (Qau N.ar)∧∃ (j:Nat) (C3:Option Addr) (e3:Nat) (xs:List Value),j≤k∧i=.int .i64 j∧Blk W (w.heap.size+2) 177 #[.slice A1 n c1,.slice A3' m c3',.slice C3 j e3]∧YwO W w3.heap.size C3 j e3 xs (N.ts.take j)) (fun i _=>k-(intOf i).toNat)
       case atStart=>exact ⟨Zn _,hbl,hJ,hR,hVo,hown,0,none,0,[],Nat.zero_le _,rfl,hK0,by simpa using YwO.nil _ _⟩
       case round =>
        clear hbl hJ hR hown hK0 j0 j1 j2 k0 k1 k2 hj hVo hszr;obtain ⟨hszr,hbl,hJ,hR,hVo,hAo,j,C3,e3,xs,hj,rfl,hK0,hown⟩:=hrel;obtain ⟨j0,j1,j2⟩:=hJ.three
        by_cases hlt:j<k
        · obtain ⟨sb,so,t,rfl,ht,cx,cy,A',n',c',cz,hr,hc1',hc2'⟩:=HY.out.at_ hlt
          have HN:=Zh (show N.ts.take (j+1)=N.ts.take j ++[t] by
           rw [Yf (Zs ht).1,(Zs ht).2])
          have HTC:=Zh (show ∀ V,Below w.heap.size w V→Calls prog 139 #[.agg #[.int .i64 t.ins,.int .i64 t.outs,.slice A' n' c']] V (fun e w'=>∃ A2 c2,e=.returned (.agg #[.int .i64 t.ins,.int .i64 t.outs,.slice A2 n' c2])∧Own w' V.heap.size 2 1 A2 n' c2 (Qag t.costs)∧Below V.heap.size V w') from
           fun V hV=>Qvw A' n' c' t V (hr.below hV) (by have:=HC.out t (Zm ht);rw [hr.1] at this;exact this))
          have dx:=Zc hbl (Zn _) cx;have dy:=Zc hbl (Zn _) cy;have dz:=Zc hbl (Zn _) cz
          have HSX:=Zh (show ∀ V,Below (w.heap.size+2) wr V→V.cell? ⟨w.heap.size,2,none⟩=some (.slice (some ⟨sb,so,none⟩) k e)∧V.cell? ⟨sb,so+j*3,none⟩=some (.int .i64 t.ins)∧V.cell? ⟨sb,so+j*3+1,none⟩=some (.int .i64 t.outs)∧V.cell? ⟨sb,so+j*3+2,none⟩=some (.slice A' n' c') from
           fun V hb=>⟨(hb.cell (by simp only;omega)).trans j2,(hb.cell (by have:=Qaj cx;simp only at this ⊢;omega)).trans dx,(hb.cell (by have:=Qaj cx;simp only at this ⊢;omega)).trans dy,(hb.cell (by have:=Qaj cx;simp only at this ⊢;omega)).trans dz⟩)
          have i3:(0:Int)≤(j:Int):=by omega
          have i4:(j:Int)<(k:Int):=by omega
          have hsz:w3.heap.size≤wr.heap.size:=hszr;clear hr ht cx cy cz dx dy dz j0 j1 hc1' hc2'
          go_wp2_with fail
          refine wp_region_held_drew (S:=fun V=>Below (w.heap.size+2) wr V) (by kernel_rfl) (Zr _ _).drew (fun _=>?_);refine tz 0 76 ?_;refine tz 2 78 ?_;refine tz 3 79 ?_;refine tz 4 80 ?_;refine tz 5 81 ?_;refine tz 6 82 ?_;refine wpAnyH_ready (rs:=[1,7]) (by kernel_rfl) (by simp) ?_;refine AllReadyH.cons (o:=_) rfl (fun K hK=>?_) (AllReadyH.cons (o:=_) rfl (fun K hK=>?_) AllReadyH.nil)
          focus
           have k3a:=hK0.three;obtain ⟨k3a,k3b,k3c⟩:=k3a;go_simp;refine hK.out _ _ (Zr _ _).drew (fun _=>?_);clear hK K k3a k3b k3c;refine Zk 7 (fun K hK=>?_);go_simp;with_reducible refine (HTC.out _ Qah).mono ?_
           rintro r w4 ⟨A2,c2,rfl,hrc,hb4⟩;have hbr4:Below wr.heap.size wr w4:=Zb Qah hb4;clear hb4
           go_wp2_with fail
           refine hK.out _ _ (hbr4.mono (by omega)) (fun _=>?_);clear hK K;refine Zk 8 (fun K hK=>?_);go_simp;refine hK.out _ _ (Below.alloc (hbr4.mono (by omega)) (by have:=hbr4.size;omega) _) (fun _=>?_);clear hK K
          rotate_left
          focus
           go_simp;with_reducible refine (HTC.out _ Qah).mono ?_
           rintro r w4 ⟨A2,c2,rfl,hrc,hb4⟩;have hbr4:Below wr.heap.size wr w4:=Zb Qah hb4;clear hb4
           go_wp2_with fail
           refine hK.out _ _ (hbr4.mono (by omega)) (fun _=>?_);clear hK K;refine wpAnyH_ready (rs:=[1,8]) (by kernel_rfl) (by simp) ?_;refine AllReadyH.cons (o:=_) rfl (fun K hK=>?_) (AllReadyH.cons (o:=_) rfl (fun K hK=>?_) AllReadyH.nil)
           focus
            have k3a:=(hK0.below hbr4 hK0.lt).three;obtain ⟨k3a,k3b,k3c⟩:=k3a;go_simp;refine hK.out _ _ (hbr4.mono (by omega)) (fun _=>?_);clear hK K k3a k3b k3c;refine Zk 8 (fun K hK=>?_);go_simp;refine hK.out _ _ (Below.alloc (hbr4.mono (by omega)) (by have:=hbr4.size;omega) _) (fun _=>?_);clear hK K
           rotate_left
           focus
            go_simp;refine hK.out _ _ (Below.alloc (hbr4.mono (by omega)) (by have:=hbr4.size;omega) _) (fun _=>?_);clear hK K;have k3a:=fun o=>((hK0.below hbr4 hK0.lt).alloc o).three.1
            have k3b:=fun o=>((hK0.below hbr4 hK0.lt).alloc o).three.2.1
            have k3c:=fun o=>((hK0.below hbr4 hK0.lt).alloc o).three.2.2
            refine Zk 1 (fun K hK=>?_);go_simp;refine hK.out _ _ (Below.alloc (hbr4.mono (by omega)) (by have:=hbr4.size;omega) _) (fun _=>?_);clear hK K k3a k3b k3c
          all_goals
           have hrc:Own w4 wr.heap.size 2 1 A2 n' c2 (Qag t.costs):=hrc;have hW:∃ W,W=w4.alloc (.cells #[.int .i64 t.ins,.int .i64 t.outs,.slice A2 n' c2] 193):=⟨_,rfl⟩;obtain ⟨W,hW⟩:=hW;rw [←hW];have hb4W:Below w4.heap.size w4 W:=by rw [hW];exact Qah
           have hrdW:Rds W 3 (some ⟨w4.heap.size,0,none⟩) 1 [.int .i64 t.ins,.int .i64 t.outs,.slice A2 n' c2]:=by rw [hW];exact (Blk.new w4 193 #[.int .i64 t.ins,.int .i64 t.outs,.slice A2 n' c2]).rds rfl
           clear hW;have hbrW:Below wr.heap.size wr W:=Zb hbr4 hb4W;have hyW:=hown.below hbrW;have hVW:=hVo.below hbrW;have hAW:=hAo.below hbrW;have hbW:Below (w.heap.size+2) wr W:=hbrW.mono (by omega);have hblW:Below w.heap.size w W:=Zb hbl hbrW;have hJW:=hJ.below hbrW hJ.lt;have hRW:=hR.below hbrW hR.lt;have hKW:=hK0.below hbrW hK0.lt;have hcW:=hrc.rds.rdI.below hb4W
           have hclW:∀ g,Qab A2=some g→w3.heap.size≤g∧g<W.heap.size∧Qab C3≠some g:=fun g hg=>by
            have h1:=hrc.lt g hg;refine ⟨by omega,Yu h1.2 hb4W.size,fun e=>?_⟩;have h2:=(hown.1.lt g e).2;omega
           have hcapW:=hrc.cap;have hcapM:=hrc.capMax;have hWsz:w3.heap.size≤W.heap.size:=by have:=hbrW.size;omega
           have HYY:=Zh hyW;have hownY:=hyW.1
           have HONE:=Zh (show ∀ u∈[Value.int .i64 t.ins,.int .i64 t.outs,.slice A2 n' c2],u.oneCell'=true from fun u hu=>by
            simp at hu
            rcases hu with rfl|rfl|rfl <;> rfl)
           clear hyW;refine Zk 9 (fun K hK=>?_);with_reducible refine Qay (some 85) rfl rfl (.tmp 77) (.tmp 84) 175 rfl 193 _ 3 40 Qpp underlying175 rfl (by omega) rfl rfl hownY hrdW HONE.out (by omega) (by omega) hWsz ?_
           intro A' c' w' hown' hg hat;have hb5:Below (w.heap.size+2) wr w':=Zo hbW hg (hownY.mono (by omega)) (by omega);have hb6:Below w.heap.size w w':=Zo hblW hg (hownY.mono (by omega)) (by omega);have hJ':=hJW.grown hg (hownY.ne (by omega));have hR':=hRW.grown hg (hownY.ne (by omega));have hK':=hKW.grown hg (hownY.ne (by omega));have hV':=hVW.far hg (Own.apart HLT.out hownY);have hA':=hAW.far hg (Own.apart HLA.out hownY);have HYN:=Zh (HYY.out.push hown' hg hat hcW hclW hcapW hcapM);clear hownY hrdW hbW hblW hJW hRW hKW hg hVW hAW hclW hcW hown' hat HYY hbrW hb4W hcapW hcapM;refine hK.out _ _ hb5 (fun _=>?_);clear hK K;simp only [Act.put,Yi,Yj,Yk];refine tz 10 86 ?_;have k3':=hK'.three;have kf':=hK'.frozen 2;obtain ⟨k3a,k3b,k3c⟩:=k3';refine Zk 11 (fun K hK=>?_);go_simp;refine hK.out _ _ (hb5.setCell (by simp only;omega) _) (fun _=>?_);clear hK K;refine Zd ?_;have HK2:=Zh (hK'.set_ 2 (.slice A' (j+1) c'));have HV2:=Zh (hV'.far (Qad w' (w.heap.size+2) 2 (.slice A' (j+1) c')) (.inr (hV'.ne (by omega))));have HA2:=Zh (hA'.far (Qad w' (w.heap.size+2) 2 (.slice A' (j+1) c')) (.inr (hA'.ne (by omega))));have HY2:=Zh (HYN.out.far (Qad w' (w.heap.size+2) 2 (.slice A' (j+1) c')) (by omega));clear hV' hA' hK' k3a k3b k3c kf'
           go_wp2_with fail
           go_roundw
           case rel=>exact ⟨(by have:=hb5.size;simp [World.setCell];omega),Qah,Qne,Qne,HV2.out,HA2.out,j+1,A',c',_,by omega,by go_num,HK2.out,by rw [HN.out];exact HY2.out⟩
           case measure=>simp [intOf];omega
        · obtain rfl:k=j:=by omega
          rw [Ye (by rw [HY.out.1];exact Zn _)] at hown;obtain ⟨q0,q1,q2⟩:=hK0.three;have f0:=hR.frozen 0;have f1:=hR.frozen 1;have f2:=hR.frozen 2;obtain ⟨r0,r1,r2⟩:=hR.three;have HV5:=Zh ((((hVo.far (Qad wr (w.heap.size+1) 0 (.slice A1 n c1)) (.inr (hVo.ne (by omega)))).far (Qad _ (w.heap.size+1) 1 (.slice A3' m c3')) (.inr (hVo.ne (by omega)))).far (Qad _ (w.heap.size+1) 2 (.slice C3 k e3)) (.inr (hVo.ne (by omega)))).rds.rd3);have HA5:=Zh ((((hAo.far (Qad wr (w.heap.size+1) 0 (.slice A1 n c1)) (.inr (hAo.ne (by omega)))).far (Qad _ (w.heap.size+1) 1 (.slice A3' m c3')) (.inr (hAo.ne (by omega)))).far (Qad _ (w.heap.size+1) 2 (.slice C3 k e3)) (.inr (hAo.ne (by omega)))).rds.rd3);have HY5:=Zh ((((hown.far (Qad wr (w.heap.size+1) 0 (.slice A1 n c1)) (by omega)).far (Qad _ (w.heap.size+1) 1 (.slice A3' m c3')) (by omega)).far (Qad _ (w.heap.size+1) 2 (.slice C3 k e3)) (by omega)).rdY);clear hVo hAo hown j0 j1 hR
          go_wp2_with fail
          refine bodyPost_ret (v:=.agg #[.slice A1 n c1,.slice A3' m c3',.slice C3 k e3]) (by simp [results,results88,go_sem,r0,r1,r2]) rfl ?_;exact ⟨A1,A3',C3,c1,c3',e3,rfl,⟨HV5.out,HA5.out,HY5.out⟩,Qah⟩
end Go.Proofs.YtdheeddnkdhfeaaGreatDoor
