/- Qbl of the proof: Hq, Hy, Hs, Hz, Gb, Gt. -/
import Derived.Test.YtkaaakbejnlbgaaGreatDoorD5
set_option maxHeartbeats 2000000
namespace Go.Proofs.YtkaaakbejnlbgaaGreatDoor
theorem Ord.congr {c c':Nat→Int}{len:Nat}(h:Ord c len)(e:∀ x,x<len→c' x=c x):Ord c' len:=fun i h0 hl=>by rw [e i hl,e _ (by omega)];exact h i h0 hl
theorem UpO.congr {c c':Nat→Int}{len p:Nat}(h:UpO c len p)(e:∀ x,x<len→c' x=c x):UpO c' len p :=
 ⟨fun i h0 hl hn=>by rw [e i hl,e _ (by omega)];exact h.o i h0 hl hn,fun i h0 hl hp hq=>by rw [e i hl,e _ (by omega)];exact h.g i h0 hl hp hq⟩
theorem Qjl.congr {c c':Nat→Int}{len p:Nat}(h:Qjl c len p)(e:∀ x,x<len→c' x=c x):Qjl c' len p :=
 ⟨fun i h0 hl hn=>by rw [e i hl,e _ (by omega)];exact h.o i h0 hl hn,fun i h0 hl hp hq=>by rw [e i hl,e _ (by omega)];exact h.g i h0 hl hp hq⟩
theorem Qvu {r:List Nat}{i j:Nat}(hi:i<r.length)(hj:j<r.length)(k:Nat):k∈Qep r i j↔k∈r:=by simp only [List.mem_iff_getElem?];constructor;{rintro ⟨x,hx⟩;rw [Qec hi hj] at hx;by_cases e:x=j;{rw [if_pos e] at hx;exact ⟨_,hx⟩};{rw [if_neg e] at hx;by_cases e2:x=i;{rw [if_pos e2] at hx;exact ⟨_,hx⟩};{rw [if_neg e2] at hx;exact ⟨_,hx⟩}}};{rintro ⟨x,hx⟩;by_cases e:x=i;{subst e;exact ⟨j,by rw [Qec hi hj,if_pos rfl];exact hx⟩};{by_cases e2:x=j;{subst e2;exact ⟨i,by rw [Qec hi hj,if_neg (fun e3=>e e3.symm),if_pos rfl];exact hx⟩};{exact ⟨x,by rw [Qec hi hj,if_neg e2,if_neg e];exact hx⟩}}}
theorem HpS.key {n:Nat}{r:List Nat}{cs:List Int}{st:List Nat}(h:HpS n r cs st){i:Nat}(hi:i<r.length):∃ k x,r[i]?=some k∧k<n∧cs[k]?=some x∧at_ r cs i=x:=by have h1:=Qbo 0 hi;have h2:=(h.seat i _ h1).1;refine ⟨_,_,h1,h2,Qbo 0 (by rw [h.lc];exact h2),rfl⟩
theorem Qmu:∀ (n:Nat)(l:List Nat),l.Nodup→(∀ k∈l,k<n)→l.length≤n
 | 0,l,_,h=>by
  cases l with
  | nil=>simp
  | cons a l=>exact absurd (h a (by simp)) (by omega)
 | n+1,l,hn,h=>by
  have h1:=Qmu n (l.erase n) (hn.erase n) (fun k hk=>by
   have h2:=h k (List.mem_of_mem_erase hk);have h3:k≠n:=fun e=>by rw [e] at hk;exact (List.Nodup.not_mem_erase hn) hk
   omega)
  have h4:l.length≤(l.erase n).length+1:=by{rw [List.length_erase];split <;> omega};omega
theorem HpS.le {n:Nat}{r:List Nat}{cs:List Int}{st:List Nat}(h:HpS n r cs st):r.length≤n:=by refine Qmu n r ?_ (fun k hk=>?_);{refine List.pairwise_iff_getElem.2 (fun i j hi hj hij e=>?_);have h1:=Zg hi;have h2:=Zg hj;rw [←e] at h2;exact absurd (h.nodup h1 h2) (by omega)};{obtain ⟨i,hi⟩:=List.mem_iff_getElem?.1 hk;exact (h.seat i k hi).1}
theorem up_step {n p:Nat}{r:List Nat}{cs:List Int}{st:List Nat}(h:HpS n r cs st) (hu:UpO (at_ r cs) r.length p) (h0:0<p) (hl:p<r.length) (hc:at_ r cs p≤at_ r cs ((p-1) / 2)) :
 HpS n (Qep r p ((p-1) / 2)) cs (Qmj r st p ((p-1) / 2))∧UpO (at_ (Qep r p ((p-1) / 2)) cs) (Qep r p ((p-1) / 2)).length ((p-1) / 2) :=
 ⟨h.swap hl (by omega),by rw [Qga];exact (hu.step h0 hl hc).congr (fun x hx=>Ref hl (by omega) x hx)⟩
theorem Ret {n p m:Nat}{r:List Nat}{cs:List Int}{st:List Nat}(h:HpS n r cs st) (hd:Qjl (at_ r cs) r.length p) (h0:0<m) (hl:m<r.length) (hm:(m-1) / 2=p) (hc:at_ r cs m≤at_ r cs p) (ho:∀ i,0<i→i<r.length→(i-1) / 2=p→at_ r cs m≤at_ r cs i) :
 HpS n (Qep r p m) cs (Qmj r st p m)∧Qjl (at_ (Qep r p m) cs) (Qep r p m).length m :=
 ⟨h.swap (by omega) hl,by rw [Qga];exact (hd.step h0 hl hm hc ho).congr (fun x hx=>Ref (by omega) hl x hx)⟩
open Go.Proofs.Tryz Go.RowKit
attribute [local go_sem ↓] Go.wp_at_zero Go.wp_at_succ
section
variable {G:Nat→Prop} {g gc gs gr n m c:Nat} {R:List Nat} {C:Iz} {S:List Nat}
theorem Rfi (w:World) (h:Qbh w G g (some ⟨gr,0,none⟩) gc gs n m c R C S) (hp:HpS n R C S) (p:Nat) (hpm:p<m) (hu:UpO (at_ R C) m p) :
 Calls prog 191 #[.pointer (some ⟨g,0,none⟩),.int .i64 p] w fun e w'=>e=.returned (.tuple #[])∧∃ R' S',Qbh w' G g (some ⟨gr,0,none⟩) gc gs n m c R' C S'∧HpS n R' C S'∧Ord (at_ R' C) m∧(∀ k,k∈R'↔k∈R)∧Aft G w w':=by
 have hcap:=h.cap;have HH:=Zh h;have HP:=Zh hp;have HU:=Zh hu;clear h hp hu;go_enter func191,ntmps191
 go_wp2_with fail
 go_loopw [1] (fun q W=>∃ (p:Nat) (R' S':List Nat),q=.int .i64 p∧p<m∧Qbh W G g (some ⟨gr,0,none⟩) gc gs n m c R' C S'∧HpS n R' C S'∧UpO (at_ R' C) m p∧(∀ k,k∈R'↔k∈R)∧Aft G w W) (fun q _=>(intOf q).toNat)
 case atStart=>exact ⟨p,R,S,rfl,hpm,HH.o,HP.o,HU.o,fun _=>Iff.rfl,Aft.refl _ _⟩
 case round =>
  obtain ⟨p,R',S',rfl,hpm,hw,hp,hu,hk,ha⟩:=hrel;have hlr:=hw.lr;by_cases h0:p=0;{subst h0;have HW:=Zh hw;have HO:=Zh (hu.done (.inl rfl));have HQ:=Zh hp;have HK:=Zh hk;have HA:=Zh ha;clear hw hp hu hk ha;(go_wp2_with fail);go_end0;exact ⟨rfl,R',S',HW.o,HQ.o,HO.o,HK.o,HA.o⟩}
  · (have i1:0<(p:Int):=Oo);obtain ⟨a,x,ka,kb,kc,kd⟩:=hp.key (i:=p) Oo;obtain ⟨b,y,la,lb,lc,ld⟩:=hp.key (i:=(p-1) / 2) Oo;have HAH:=Zh (fun V (hV:Qbh V G g (some ⟨gr,0,none⟩) gc gs n m c R' C S')=>Qqj V hV ka la kc lc lb);have HST:=Zh (fun hc=>up_step hp (by rw [hlr];exact hu) Oo Oo hc);have HDN:=Zh (fun hc=>hu.done (.inr hc));have HSW:=Zh (fun V (hV:Qbh V G g (some ⟨gr,0,none⟩) gc gs n m c R' C S')=>Qnu V hV ka la kb lb);have HQ:=Zh hp;have HK:=Zh hk;have HW:=Zh hw;have HA:=Zh ha;have HKM:=Zh (Qvu (r:=R') (i:=p) (j:=(p-1) / 2) Oo Oo);have HLT:=Zh hw.lt;clear hw hp hu hk ha ka kb kc la lb lc;(go_wp2_with fail);rw [show ((p:Int)-1) / 2=(((p-1) / 2:Nat):Int) by omega];(with_reducible refine (HAH.o _ HW.o).mono ?_);rintro e w' ⟨rfl,hb⟩;have hw':=HW.o.keep hb;have HW':=Zh hw';have HA':=Zh (HA.o.trans (Aft.below hb HLT.o));clear hw' hb HW HA HAH
    cases hah:hAh x y a b with
    | false =>have HO:=Zh (HDN.o (by rw [kd,ld];exact hAh_f hah));(go_wp2_with fail);go_end0;exact ⟨rfl,R',S',HW'.o,HQ.o,HO.o,HK.o,HA'.o⟩
    | true =>have HS':=Zh (HST.o (by rw [kd,ld];exact hAh_t hah));(go_wp2_with fail);rw [show ((p:Int)-1) / 2=(((p-1) / 2:Nat):Int) by omega];(with_reducible refine (HSW.o _ HW'.o).mono ?_);rintro e w'' ⟨rfl,hw2,ha2⟩;have HW2:=Zh hw2;have HA2:=Zh (HA'.o.trans ha2);clear hw2 ha2 HW' HA' HSW;(go_wp2_with fail);go_roundw;(case rel=>exact ⟨(p-1) / 2,_,_,by rw [show ((p:Int)-1) / 2=(((p-1) / 2:Nat):Int) by omega],Oo,HW2.o,HS'.o.1,by have:=HS'.o.2;rw [Qga,hlr] at this;exact this,fun k=>(HKM.o k).trans (HK.o k),HA2.o⟩);case measure=>simp [intOf];omega
theorem Rfg (w:World) (h:Qbh w G g (some ⟨gr,0,none⟩) gc gs n m c R C S) (hp:HpS n R C S) (hd:Qjl (at_ R C) m 0) :
 Calls prog 193 #[.pointer (some ⟨g,0,none⟩),.int .i64 0] w fun e w'=>e=.returned (.tuple #[])∧∃ R' S',Qbh w' G g (some ⟨gr,0,none⟩) gc gs n m c R' C S'∧HpS n R' C S'∧Ord (at_ R' C) m∧(∀ k,k∈R'↔k∈R)∧Aft G w w':=by
 have hcap:=h.cap;have hmn:m≤n:=by rw [←h.lr];exact hp.le
 have hn0:=h.n0;have HH:=Zh h;have HP:=Zh hp;have HD:=Zh hd;clear h hp hd;go_enter func193,ntmps193
 go_wp2_with fail
 go_loopw [1] (fun q W=>∃ (p:Nat) (R' S':List Nat),q=.int .i64 p∧(p<m∨p=0)∧Qbh W G g (some ⟨gr,0,none⟩) gc gs n m c R' C S'∧HpS n R' C S'∧Qjl (at_ R' C) m p∧(∀ k,k∈R'↔k∈R)∧Aft G w W) (fun q _=>m-(intOf q).toNat)
 case atStart=>exact ⟨0,R,S,rfl,.inr rfl,HH.o,HP.o,HD.o,fun _=>Iff.rfl,Aft.refl _ _⟩
 case round =>
  obtain ⟨p,R',S',rfl,hpm,hw,hp,hd,hk,ha⟩:=hrel;have hlr:=hw.lr;have HQ:=Zh hp;have HDD:=Zh hd;have HK:=Zh hk;have HA:=Zh ha;have HW:=Zh hw;clear hw hp hd hk ha;go_wp2_with fail
  go_loopw [4,5] (fun x y W=>Bw wr W∧∃ l j:Nat,x=.int .i64 l∧y=.int .i64 j∧2*p+1≤j∧j≤2*p+3∧(l=p∨(2*p+1≤l∧l<j∧l<m))∧at_ R' C l≤at_ R' C p∧∀ i,2*p+1≤i→i<j→i<m→at_ R' C l≤at_ R' C i) (fun _ y _=>2*p+3-(intOf y).toNat)
  case atStart=>exact ⟨Zr _ _,p,2*p+1,rfl,by go_num,Oo,Oo,.inl rfl,Int.le_refl _,fun i h1 h2=>by omega⟩
  case round =>
   obtain ⟨hb,l,j,rfl,rfl,h1,h2,h3,h4,h5⟩:=hrel;have HB:=Zh hb;have hwV:=HW.o.keep hb;have f0:=hwV.f0;by_cases hj:j≤2*p+2∧j<m
   · obtain ⟨hj2,hjm⟩:=hj;(have i1:(j:Int)≤2*p+2:=Oo);(have i2:(j:Int)<m:=Oo);obtain ⟨a,x,ka,kb,kc,kd⟩:=HQ.o.key (i:=j) Oo;obtain ⟨b,y,la,lb,lc,ld⟩:=HQ.o.key (i:=l) Oo;have HAH:=Zh (Qqj _ hwV ka la kc lc lb);have H4:=Zh h4;have H5:=Zh h5;clear hb hwV ka kb kc la lb lc h4 h5;(go_wp2_with fail);(with_reducible refine HAH.o.mono ?_);rintro e w' ⟨rfl,hb'⟩;have HB':=Zh (HB.o.trans (hb'.mono HB.o.size));clear hb' HB HAH
     cases hah:hAh x y a b with
     | false =>have hle:=hAh_f hah;(go_wp2_with fail);go_roundw;(case rel =>refine ⟨HB'.o,l,j+1,rfl,by go_num,Oo,Oo,Oo,H4.o,fun i g1 g2 g3=>?_⟩;by_cases e:i=j;{subst e;rw [kd,ld];exact hle};{exact H5.o i g1 Oo g3});case measure=>simp [intOf];omega
     | true =>have hle:=hAh_t hah;(go_wp2_with fail);go_roundw;(case rel =>refine ⟨HB'.o,j,j+1,rfl,by go_num,Oo,Oo,Oo,?_,fun i g1 g2 g3=>?_⟩;{have:=H4.o;omega};{by_cases e:i=j;{subst e;exact Int.le_refl _};{have:=H5.o i g1 Oo g3;omega}});case measure=>simp [intOf];omega
   {have HDN:=Zh (show ∀ i,0<i→i<m→(i-1) / 2=p→at_ R' C l≤at_ R' C i from fun i g1 g2 g3=>h5 i Oo Oo g2);(have HW':=Zh hwV;have HA':=Zh (HA.o.trans (Aft.below HB.o HW.o.lt));have HX:((2*(p:Int)+2<(j:Int))∨((j:Int)≤2*p+2∧(m:Int)≤j)):=Oo);clear hb hwV h5 HB HW HA;by_cases hlp:l=p;{subst hlp;have HO:=Zh (HDD.o.done HDN.o);(rcases HX with hx|⟨hx,hy⟩);{(have e1:decide ((j:Int)≤2*l+2)=false:=by simp;omega);exact Kcn};{(have e1:decide ((j:Int)<m)=false:=by simp;omega);exact Kcn}};{obtain ⟨a,x,ka,kb,kc,kd⟩:=HQ.o.key (i:=p) Oo;(obtain ⟨b,y,la,lb,lc,ld⟩:=HQ.o.key (i:=l) Oo;have HSW:=Zh (Qnu _ HW'.o ka la kb lb);have HST:=Zh (Ret HQ.o (p:=p) (m:=l) (by rw [hlr];exact HDD.o) Oo Oo Oo h4 (by rw [hlr];exact HDN.o));have HKM:=Zh (Qvu (r:=R') (i:=p) (j:=l) Oo Oo);have hlp':¬(l:Int)=p:=Oo);clear ka kb kc la lb lc;(rcases HX with hx|⟨hx,hy⟩);{(have e1:decide ((j:Int)≤2*p+2)=false:=by simp;omega);exact Kaw};{(have e1:decide ((j:Int)<m)=false:=by simp;omega);exact Kaw}}}
end
def Qxi (R:List Nat)(C:Iz)(k:Nat):Option Int:=if k∈R then C[k]? else none
section
variable {n k:Nat} {r st:List Nat} {cs:Iz} {x:Int}
theorem HpS.out (h:HpS n r cs st)(hk:k<n):st[k]?=some 0↔k ∉ r:=by obtain ⟨s,hs⟩:∃ s,st[k]?=some s:=⟨_,Qbo 0 (by rw [h.ls];exact hk)⟩;constructor;{intro h0 hm;obtain ⟨i,hi⟩:=List.mem_iff_getElem?.1 hm;have:=(h.seat i k hi).2;rw [h0] at this;(injection this with this);omega};{intro hm;(rcases s with _|s);{exact hs};{exact absurd (List.mem_iff_getElem?.2 ⟨s,h.none_ k s hs⟩) hm}}
theorem HpS.in_ (h:HpS n r cs st)(hm:k∈r):∃ i,r[i]?=some k∧i<r.length∧k<n∧st[k]?=some (i+1):=by obtain ⟨i,hi⟩:=List.mem_iff_getElem?.1 hm;exact ⟨i,hi,(Zs hi).1,(h.seat i k hi).1,(h.seat i k hi).2⟩
theorem HpS.put (h:HpS n r cs st)(hk:k<n)(hn:k ∉ r):HpS n (r ++[k]) (cs.set k x) (st.set k (r.length+1)):=by refine ⟨by rw [Yq];exact h.lc,by rw [Yq];exact h.ls,fun i q hi=>?_,fun q i hq=>?_⟩;{rw [List.getElem?_append] at hi;(by_cases hl:i<r.length);{rw [if_pos hl] at hi;(have h1:=h.seat i q hi;have hne:k≠q:=fun e=>hn (e▸List.mem_iff_getElem?.2 ⟨i,hi⟩));exact ⟨h1.1,by rw [Yh hne];exact h1.2⟩};{rw [if_neg hl] at hi;have h2:i-r.length=0:=by{(rcases Nat.eq_zero_or_pos (i-r.length) with e|e);{exact e};{rw [Yd (by simp;omega)] at hi;cases hi}};rw [h2] at hi;cases hi;refine ⟨hk,?_⟩;rw [Yg (by rw [h.ls];exact hk)];(congr 1);omega}};{by_cases e:k=q;{subst e;rw [Yg (by rw [h.ls];exact hk)] at hq;(injection hq with hq);(have:i=r.length:=Oo);subst this;simp};{rw [Yh e] at hq;have h1:=h.none_ q i hq;rw [Yc (Zs h1).1];exact h1}}
theorem at_put (hn:k ∉ r):∀ i,i<r.length→at_ (r ++[k]) (cs.set k x) i=at_ r cs i:=fun i hi=>by
 have h1:=Qbo 0 hi;have hne:k≠r.getD i 0:=fun e=>hn (List.mem_iff_getElem?.2 ⟨i,by rw [e];exact h1⟩)
 unfold at_;rw [Qct (d:=0) (show (r ++[k])[i]?=some (r.getD i 0) by rw [Yc hi];exact h1),Ya,Yh hne,←Ya]
theorem ord_put (ho:Ord (at_ r cs) r.length) (hn:k ∉ r):UpO (at_ (r ++[k]) (cs.set k x)) (r.length+1) r.length:=ho.push (at_put hn)
theorem HpS.setC (h:HpS n r cs st):HpS n r (cs.set k x) st:=⟨by rw [Yq];exact h.lc,h.ls,h.seat,h.none_⟩
theorem ord_less (h:HpS n r cs st) (ho:Ord (at_ r cs) r.length) {i:Nat} (hi:r[i]?=some k) (hx:x≤at_ r cs i):UpO (at_ r (cs.set k x)) r.length i:=by have hl:=(Zs hi).1;have hk:=(h.seat i k hi).1;refine ho.lower (fun j hj hne=>?_) ?_ hl;{have h1:=Qbo 0 hj;(have hne2:k≠r.getD j 0:=fun e=>hne (h.nodup (by rw [e];exact h1) hi));unfold at_;rw [Ya (l:=cs.set k x),Yh hne2,←Ya]};{have:at_ r (cs.set k x) i=x:=by{unfold at_;rw [Qct hi];exact Qct (by rw [Yg (by rw [h.lc];exact hk)])};rw [this];exact hx}
def Qem (hp:Nat→Option Int)(k:Nat)(x:Int):Nat→Option Int:=fun q=>if q=k then some (match hp k with|none=>x|some y=>if y≤x then y else x) else hp q
theorem Qzp {r':List Nat}(hl:k<cs.length)(hm:∀ q,q∈r'↔q∈r∨q=k)(q:Nat):Qxi r' (cs.set k x) q=if q=k then some x else Qxi r cs q:=by unfold Qxi;by_cases e:q=k;{subst e;rw [if_pos rfl,if_pos ((hm q).2 (.inr rfl)),Yg hl]};{rw [if_neg e,Yh (fun e2=>e e2.symm)];by_cases hq:q∈r;{rw [if_pos ((hm q).2 (.inl hq)),if_pos hq]};{rw [if_neg (fun h=>((hm q).1 h).elim hq e),if_neg hq]}}
theorem Rfm {y:Int}(hy:Qxi r cs k=some y):k∈r∧cs[k]?=some y:=by unfold Qxi at hy;by_cases hm:k∈r;{rw [if_pos hm] at hy;exact ⟨hm,hy⟩};{rw [if_neg hm] at hy;cases hy}
theorem inAt_out (h:HpS n r cs st)(hy:Qxi r cs k=none):k ∉ r:=fun hm=>by unfold Qxi at hy;rw [if_pos hm] at hy;obtain ⟨i,_,_,hk,_⟩:=h.in_ hm;rw [Qbo 0 (by rw [h.lc];exact hk)] at hy;cases hy
def Rdi (hp:Nat→Option Int)(k:Nat)(x:Int):Bool:=match hp k with|none=>true|some y=>!decide (y≤x)
theorem Rcq (h:HpS n r cs st) (ho:Ord (at_ r cs) r.length) {y z:Int} {q:Nat} (hk:r[0]?=some k) (hx:cs[k]?=some y) (hq:Qxi r cs q=some z):y≤z:=by obtain ⟨hm,hz⟩:=Rfm hq;obtain ⟨i,hi,hl,_,_⟩:=h.in_ hm;have h1:=ho.root i hl;unfold at_ at h1;rw [Qct hk,Qct hi,Qct hx,Qct hz] at h1;exact h1
theorem HpS.pop {L:Nat}(h:HpS n r cs st)(hl:r.length=L+1) (hk:r[0]?=some k) :
 HpS n ((Qep r 0 L).take L) cs ((Qmj r st 0 L).set k 0)∧(∀ q,q∈(Qep r 0 L).take L↔q∈r∧q≠k)∧∀ i,0<i→i<L→at_ ((Qep r 0 L).take L) cs i=at_ r cs i:=by
 have h1:=h.swap (i:=0) (j:=L) Oo Oo;have hg:∀ x,(Qep r 0 L)[x]?=if x=L then some k else if x=0 then r[L]? else r[x]?:=fun x=>by rw [Qec Oo Oo,hk]
 have hL:(Qep r 0 L)[L]?=some k:=by rw [hg,if_pos rfl]
 have hlen:(Qep r 0 L).length=L+1:=by rw [Qga];exact hl
 have hkn:k<(Qmj r st 0 L).length:=by rw [h1.ls];exact (h.seat 0 k hk).1
 generalize hr1:Qep r 0 L=r1 at *;generalize hs1:Qmj r st 0 L=s1 at *;refine ⟨⟨h1.lc,by rw [Yq];exact h1.ls,fun i q hi=>?_,fun q i hq=>?_⟩,fun q=>⟨fun hq=>?_,fun hq=>?_⟩,fun i h0 hi=>?_⟩;{rw [List.getElem?_take] at hi;(by_cases hil:i<L);{rw [if_pos hil] at hi;(have hne:k≠q:=fun e=>by rw [←e] at hi;have:=h1.nodup hi hL;omega);rw [Yh hne];exact h1.seat i q hi};{rw [if_neg hil] at hi;cases hi}};{by_cases e:k=q;{subst e;rw [Yg hkn] at hq;(injection hq with hq);omega};{rw [Yh e] at hq;(have h2:=h1.none_ q i hq;have hne:i≠L:=fun e2=>by rw [e2,hL] at h2;exact e (Yv h2));have:=(Zs h2).1;rw [List.getElem?_take,if_pos Oo];exact h2}};{obtain ⟨i,hi⟩:=List.mem_iff_getElem?.1 hq;rw [List.getElem?_take] at hi;(by_cases hil:i<L);{rw [if_pos hil] at hi;refine ⟨?_,fun e=>by rw [e] at hi;have:=h1.nodup hi hL;omega⟩;have hi2:=hi;rw [hg,if_neg Oo] at hi2;by_cases e:i=0;{rw [if_pos e] at hi2;exact List.mem_iff_getElem?.2 ⟨_,hi2⟩};{rw [if_neg e] at hi2;exact List.mem_iff_getElem?.2 ⟨_,hi2⟩}};{rw [if_neg hil] at hi;cases hi}};{obtain ⟨hm,hne⟩:=hq;(obtain ⟨i,hi⟩:=List.mem_iff_getElem?.1 hm;have hil:=(Zs hi).1;have hi0:i≠0:=fun e=>by rw [e,hk] at hi;exact hne (Yv hi).symm);by_cases e:i=L;{refine List.mem_iff_getElem?.2 ⟨0,?_⟩;rw [List.getElem?_take,if_pos Oo,hg,if_neg Oo,if_pos rfl,←e];exact hi};{refine List.mem_iff_getElem?.2 ⟨i,?_⟩;rw [List.getElem?_take,if_pos Oo,hg,if_neg e,if_neg hi0];exact hi}};{(have h2:(r1.take L)[i]?=r[i]?:=by rw [List.getElem?_take,if_pos hi,hg,if_neg Oo,if_neg Oo]);unfold at_;rw [Ya (l:=r1.take L),h2,←Ya]}
theorem HpS.popOrd {L:Nat}(h:HpS n r cs st) (ho:Ord (at_ r cs) (L+1)) (hl:r.length=L+1) (hk:r[0]?=some k):Qjl (at_ ((Qep r 0 L).take L) cs) L 0:=ho.pop (h.pop hl hk).2.2
end
theorem hp1_one (x:Int):∀ u∈[Value.int .i64 x],u.oneCell'=true:=Qaq [x]
section
variable {G:Nat→Prop} {g gc gs n m c:Nat} {A:Oz} {R:List Nat} {C:Iz} {S:List Nat}
def Qcx (W:World)(G:Nat→Prop)(g n:Nat)(hp:Nat→Option Int):Prop :=
 ∃ (A:Oz) (gc gs m c:Nat) (R:List Nat) (C:Iz) (S:List Nat),Qbh W G g A gc gs n m c R C S∧HpS n R C S∧Ord (at_ R C) m∧∀ k,hp k=Qxi R C k
theorem Qrv (w:World)(h:Qbh w G g A gc gs n m c R C S)(k:Nat)(hk:k<n) :
 Calls prog 190 #[.pointer (some ⟨g,0,none⟩),.int .i64 k] w fun e w'=>e=.returned (.bool true)∧w=w':=by
 have f2:=h.f2;have i1:0≤(k:Int):=Oo
 have i2:(k:Int)<n:=Oo
 clear h;go_enter func190,ntmps190
 exact Kdp
theorem Qcl (w:World)(x:Int)(h0:0≤x)(h1:x≤1152921504606846976) :
 Calls prog 135 #[.int .i64 x] w fun e w'=>e=.returned (.int .i64 x)∧w=w':=by
 have e1:decide (x<0)=false:=by simp;omega
 have e2:decide (1152921504606846976<x)=false:=by simp;omega
 go_enter func135,ntmps135
 exact Kdp
theorem Qbh.push {W w':World}{G:Nat→Prop}{g gc gs n m c c' k:Nat}{A A':Oz}{R:List Nat}{C:Iz}{S:List Nat}{o:Obj}(h:Qbh W G g A gc gs n m c R C S)
 (hown:Own w' 0 3 1 A' (m+1) c' (Qae (nis R) ++[.int .i64 (k:Int)])) (hg:(W.alloc o).grownBy w' (Qaa A)) (hA:Qaa A'=Qaa A∨Qaa A'=some (W.alloc o).heap.size) :
 Qbh (w'.setCell ⟨g,0,none⟩ (.slice A' (m+1) c')) G g A' gc gs n (m+1) c' (R ++[k]) C S∧Aft G W (w'.setCell ⟨g,0,none⟩ (.slice A' (m+1) c')):=by
 have hbl:Bw W (W.alloc o):=(Zr _ _).alloc (Zn _) _;have hz:(W.alloc o).heap.size=W.heap.size+1:=Sm
 have k1:=h.keep hbl
 have hdA:∀ b,Qaa A'=some b→b≠g∧b≠gc∧b≠gs∧¬G b:=fun b hb=>by
  rcases hA with e|e
  {exact h.dA b (e.symm.trans hb)};{rw [hb] at e;(injection e with e);have l1:=h.blk.lt;have l2:=h.cs.lt;have l3:=h.ss.lt;exact ⟨Oo,Oo,Oo,fun hG=>by have:=h.lt b hG;omega⟩}
 have hne:∀ b,(b=g∨b=gc∨b=gs∨G b)→Qaa A≠some b:=fun b hb e=>by
  obtain ⟨d1,d2,d3,d4⟩:=h.dA b e;rcases hb with rfl|rfl|rfl|hb
  {exact d1 rfl};{exact d2 rfl};{exact d3 rfl};{exact d4 hb}
 have hb1:Blk w' g 305 #[.slice A m c,.slice (some ⟨gc,0,none⟩) n n,.slice (some ⟨gs,0,none⟩) n n]:=k1.blk.grown hg (hne g (.inl rfl));refine ⟨⟨?_,?_,(k1.cs.grown hg (hne gc (.inr (.inl rfl)))).far_ (fun e=>h.dg.1 e.symm) _,(k1.ss.grown hg (hne gs (.inr (.inr (.inl rfl))))).far_ (fun e=>h.dg.2.1 e.symm) _,hdA,h.dg,h.dG,fun b hb=>?_,by simp [h.lr],h.lc,h.ls,h.n0⟩,?_⟩;{exact hb1.set_ 0 _};{have:=hown.far (Qac w' g 0 (.slice A' (m+1) c')) (.inr fun e=>(hdA g e).1 rfl);rw [Qsh,Qbq];exact this};{have:=h.lt b hb;have h2:=hg.size;simp only [World.setCell,Array.size_modify];omega}
 · refine Aft.set ⟨?_,?_,fun B hB=>?_⟩ h.dG.1 _;{exact (Qaz.below (G:=G) hbl).trans (Qaz.grown hg (fun b hb=>hne b (.inr (.inr (.inr hb))))) hbl.size};{have h2:=hg.size;omega}
   · have hBz:B≤W.heap.size:=by{(rcases Nat.lt_or_ge W.heap.size B with hl|hl);{exact absurd (h.lt _ (hB _ hl)) Oo};{exact hl}}
     exact (hbl.mono hBz).trans (Below.grown (Zr _ _) hg Oo (fun b hb=>by
      rcases Nat.lt_or_ge b B with hl|hl
      · exact absurd hb (hne b (.inr (.inr (.inr (hB b hl)))))
      · exact hl))
theorem Rfh (w:World)(h:Qbh w G g A gc gs n m c R C S)(hp:HpS n R C S) (ho:Ord (at_ R C) m) (k:Nat) (hk:k<n) (hn:k ∉ R) (x:Int) (h0:0≤x) (h1:x≤1152921504606846976) :
 Calls prog 131 #[.pointer (some ⟨g,0,none⟩),.int .i64 k,.int .i64 x] w fun e w'=>e=.returned (.bool true)∧(∃ (A':Oz) (c':Nat) (R' S':List Nat),Qbh w' G g A' gc gs n (m+1) c' R' (C.set k x) S'∧HpS n R' (C.set k x) S'∧Ord (at_ R' (C.set k x)) (m+1)∧∀ q,q∈R'↔q∈R∨q=k)∧Aft G w w':=by
 have hlr:=h.lr;have hn0:=h.n0;have hmn:m≤n:=by rw [←h.lr];exact hp.le
 have f0:=h.f0;have f2:=h.f2;have s0:w.cell? ⟨gs,k,none⟩=some (.int .i64 0):=h.seatAt ((hp.out hk).2 hn);have i1:0≤(k:Int):=Oo
 have i2:(k:Int)<n:=Oo
 have HK:=Zh (Qrv w h k hk);have HE:=Zh (Qcl w x h0 h1);have hbel:Bw w (w.alloc (.cells #[.int .i64 (k:Int)] 3)):=(Zr _ _).alloc (Zn _) _;have hal:=h.keep hbel;have hrow:=hal.row;have g0:=hal.f0;have g2:=hal.f2;have hrd:=(Blk.new w 3 #[.int .i64 (k:Int)]).rds (s:=1) (m:=1) rfl;have HPU:=Zh (hp.put (x:=x) hk hn);have HOU:=Zh (ord_put (x:=x) (by rw [h.lr];exact ho) hn);have HH:=Zh h;have hzz:(w.alloc (.cells #[.int .i64 (k:Int)] 3)).frozen? ⟨g,0,none⟩=false:=hal.blk.frozen 0;clear h hp ho hal;go_enter func131,ntmps131
 go_wp2_with fail
 with_reducible refine HK.o.mono ?_
 rintro e w' ⟨rfl,rfl⟩;go_wp2_with fail
 with_reducible refine HE.o.mono ?_
 rintro e w' ⟨rfl,rfl⟩;clear HK HE;go_wp2_with (at_builtin;with_reducible refine Qam rfl (.tmp 26) (.tmp 28) 64 rfl 3 _ 1 8 Qbm underlying64 rfl Oo rfl rfl hrow hrd (hp1_one _) Oo Oo Sm ?_)
 intro A' c' w' hown' hg hA;have hb1:Blk w' g 305 #[.slice A m c,.slice (some ⟨gc,0,none⟩) n n,.slice (some ⟨gs,0,none⟩) n n]:=(HH.o.keep hbel).blk.grown hg (fun e=>(HH.o.dA g e).1 rfl);have k0:w'.cell? ⟨g,0,none⟩=some (.slice A m c):=Zq hb1;have kf:w'.frozen? ⟨g,0,none⟩=false:=hb1.frozen 0;obtain ⟨hh1,ha1⟩:=HH.o.push hown' hg (by simpa using hA);have HH1:=Zh hh1;have HA1:=Zh ha1;clear hb1 hh1 ha1 hown' hg hA hrow hrd hbel g0 g2 hzz HH f0 f2 s0;go_wp2_with fail
 obtain ⟨W1,hW1⟩:=Zx (w'.setCell ⟨g,0,none⟩ (.slice A' (m+1) c'));rw [←hW1] at HH1 HA1;rw [←hW1];clear k0 kf hW1;have f0:=HH1.o.f0;have f2:=HH1.o.f2;have hcap:=HH1.o.cap;have s0:=HH1.o.seatAt (i:=k) (Qbo 0 (by rw [HH1.o.ls];exact hk));have fz:W1.frozen? ⟨gs,k,none⟩=false:=HH1.o.ss.frozen k;have hh2:=(HH1.o.setS (i:=k) (k:=m+1)).drew;have HH2:=Zh hh2;have HA2:=Zh ((HA1.o.set HH1.o.dG.2.2 (i:=k) (.int .i64 ((m+1:Nat):Int))).drew);clear hh2;refine Qbk 11 (S:=fun V=>V.cell? ⟨g,0,none⟩=some (.slice A' (m+1) c')∧V.cell? ⟨g,2,none⟩=some (.slice (some ⟨gs,0,none⟩) n n)) Kf ⟨f0,f2⟩ (fun _=>?_);refine tkF 0 32 (h:=⟨_,tv,?_⟩);simp only [pE,List.set];refine tkF 1 33 (h:=⟨_,tv,?_⟩);simp only [pE,List.set];refine tkF 2 34 (h:=⟨_,tv,?_⟩);simp only [pE,List.set];refine tkK 3 35 (h:=⟨_,tv,?_⟩);simp only [pE,List.set];refine tkF 4 36 (h:=⟨_,tv,?_⟩);simp only [pE,List.set];refine tkF 5 37 (h:=⟨_,tv,?_⟩);simp only [pE,List.set];refine tkF 6 38 (h:=⟨_,tv,?_⟩);simp only [pE,List.set];refine tkF 7 39 (h:=⟨_,tv,?_⟩);simp only [pE,List.set];refine tkK 8 40 (h:=⟨_,tv,?_⟩);simp only [pE,List.set];refine tkF 9 41 (h:=⟨_,tv,?_⟩);simp only [pE,List.set];refine tkF 10 42 (h:=⟨_,tv,?_⟩);simp only [pE,List.set];refine Qcb (k:=11) Kf rfl (fun K hK=>?_);go_simp;refine hK.out _ _ ?_;clear hK K;refine Qbv Kf ?_ _;have e2:((m+1:Nat):Int)=(m:Int)+1:=Oo
 rw [e2] at HH2 HA2;have HSK:=Zh (show (S.set k (m+1))[k]?=some (m+1) by rw [Yg (by have:=HH1.o.ls;omega)]);rw [hlr] at HPU HOU;clear f0 f2 s0 fz HH1 HA1 e2;obtain ⟨W2,hW2⟩:=Zx ((W1.setCell ⟨gs,k,none⟩ (.int .i64 ((m:Int)+1))).drew);rw [←hW2] at HH2 HA2;rw [←hW2];clear hW2;obtain ⟨gr,hgr,hfr⟩:=HH2.o.rowBlk Oo;subst hgr;have f1:=HH2.o.f1;have q0:=HH2.o.costAt (i:=k) (Qbo 0 (by rw [HH2.o.lc];exact hk));have z1:W2.frozen? ⟨gc,k,none⟩=false:=HH2.o.cs.frozen k;have hh3:=HH2.o.setC (i:=k) (x:=x);have HH3:=Zh hh3;have HA3:=Zh (HA2.o.set HH2.o.dG.2.1 (i:=k) (.int .i64 x));have f2:=hh3.f2;have s2:=hh3.seatAt HSK.o;have e7:IntKind.i64.wrap (((m+1:Nat):Int)-1)=(m:Int):=by rw [show ((m+1:Nat):Int)-1=(m:Int) by omega];exact IntWalk.i64_in _ Oo
 have HUP:=Zh (Rfi _ hh3 HPU.o m Oo HOU.o);clear hh3;go_wp2_with fail
 with_reducible refine HUP.o.mono ?_
 rintro e w3 ⟨rfl,R',S',hw3,hp3,ho3,hk3,ha3⟩;have HW4:=Zh hw3;have HA4:=Zh (HA3.o.trans ha3);have HP4:=Zh hp3;have HO4:=Zh ho3;have HK4:=Zh hk3;clear hw3 ha3 hp3 ho3 hk3;go_wp2_with fail
 go_ret;exact ⟨rfl,⟨_,_,R',S',HW4.o,HP4.o,HO4.o,fun q=>by rw [HK4.o q];simp⟩,HA4.o⟩
theorem Rby (w:World)(h:Qbh w G g A gc gs n m c R C S)(hp:HpS n R C S)(k i:Nat)(hk:k<n) (hi:R[i]?=some k) (x y:Int) (h0:0≤x) (h1:x≤1152921504606846976) (hy:C[k]?=some y) (hxy:y≤x) :
 Calls prog 131 #[.pointer (some ⟨g,0,none⟩),.int .i64 k,.int .i64 x] w fun e w'=>e=.returned (.bool false)∧w=w':=by
 have hn0:=h.n0;have f2:=h.f2;have f1:=h.f1;have e8:((i+1:Nat):Int)≠0:=Oo
 have s0:w.cell? ⟨gs,k,none⟩=some (.int .i64 ((i+1:Nat):Int)):=h.seatAt (hp.seat i k hi).2;have q0:=h.costAt hy;have i1:0≤(k:Int):=Oo
 have i2:(k:Int)<n:=Oo
 have HK:=Zh (Qrv w h k hk);have HE:=Zh (Qcl w x h0 h1);clear h hp;go_enter func131,ntmps131
 go_wp2_with fail
 with_reducible refine HK.o.mono ?_
 rintro e w' ⟨rfl,rfl⟩;go_wp2_with fail
 with_reducible refine HE.o.mono ?_
 rintro e w' ⟨rfl,rfl⟩;clear HK HE;exact Kdp
theorem Rbx (w:World)(h:Qbh w G g A gc gs n m c R C S)(hp:HpS n R C S) (ho:Ord (at_ R C) m) (k i:Nat) (hk:k<n) (hi:R[i]?=some k) (x y:Int) (h0:0≤x) (h1:x≤1152921504606846976) (hy:C[k]?=some y) (hxy:x<y) :
 Calls prog 131 #[.pointer (some ⟨g,0,none⟩),.int .i64 k,.int .i64 x] w fun e w'=>e=.returned (.bool true)∧(∃ (A':Oz) (c':Nat) (R' S':List Nat),Qbh w' G g A' gc gs n m c' R' (C.set k x) S'∧HpS n R' (C.set k x) S'∧Ord (at_ R' (C.set k x)) m∧∀ q,q∈R'↔q∈R)∧Aft G w w':=by
 have hlr:=h.lr;have hil:=(Zs hi).1;have hmn:m≤n:=by rw [←h.lr];exact hp.le
 have hat:at_ R C i=y:=by unfold at_;rw [Qct hi];exact Qct hy
 have hn0:=h.n0;have f2:=h.f2;have f1:=h.f1;have e8:((i+1:Nat):Int)≠0:=Oo
 have s0:w.cell? ⟨gs,k,none⟩=some (.int .i64 ((i+1:Nat):Int)):=h.seatAt (hp.seat i k hi).2;have q0:=h.costAt hy;have i1:0≤(k:Int):=Oo
 have i2:(k:Int)<n:=Oo
 have HK:=Zh (Qrv w h k hk);have HE:=Zh (Qcl w x h0 h1);have HSK:=Zh (hp.seat i k hi).2;have HPU:=Zh (hp.setC (k:=k) (x:=x));have HOU:=Zh (ord_less (x:=x) hp (by rw [h.lr];exact ho) hi Oo);have HH2:=Zh h;have HA2:=Zh (Aft.refl G w);have hcap:=h.cap;rw [hlr] at HOU;clear h hp ho;clear f1 f2 s0 q0;have s0:w.cell? ⟨gs,k,none⟩=some (.int .i64 ((i+1:Nat):Int)):=HH2.o.seatAt HSK.o;have g2:=HH2.o.f2;obtain ⟨gr,hgr,hfr⟩:=HH2.o.rowBlk Oo;subst hgr;have f1:=HH2.o.f1;have q0:=HH2.o.costAt (i:=k) (Qbo 0 (by rw [HH2.o.lc];exact hk));have z1:w.frozen? ⟨gc,k,none⟩=false:=HH2.o.cs.frozen k;have hh3:=HH2.o.setC (i:=k) (x:=x);have HH3:=Zh hh3;have HA3:=Zh (HA2.o.set HH2.o.dG.2.1 (i:=k) (.int .i64 x));have f2:=hh3.f2;have s2:=hh3.seatAt HSK.o;have e7:IntKind.i64.wrap (((i+1:Nat):Int)-1)=(i:Int):=by rw [show ((i+1:Nat):Int)-1=(i:Int) by omega];exact IntWalk.i64_in _ Oo
 have HUP:=Zh (Rfi _ hh3 HPU.o i Oo HOU.o);clear hh3;have q1:y=C.getD k 0:=(Qct hy).symm;rw [←q1] at q0;clear q1;go_enter func131,ntmps131
 go_wp2_with fail
 with_reducible refine HK.o.mono ?_
 rintro e w' ⟨rfl,rfl⟩;go_wp2_with fail
 with_reducible refine HE.o.mono ?_
 rintro e w' ⟨rfl,rfl⟩;clear HK HE;go_wp2_with fail
 with_reducible refine HUP.o.mono ?_
 rintro e w3 ⟨rfl,R',S',hw3,hp3,ho3,hk3,ha3⟩;have HW4:=Zh hw3;have HA4:=Zh (HA3.o.trans ha3);have HP4:=Zh hp3;have HO4:=Zh ho3;have HK4:=Zh hk3;clear hw3 ha3 hp3 ho3 hk3;go_wp2_with fail
 go_ret;exact ⟨rfl,⟨_,_,R',S',HW4.o,HP4.o,HO4.o,HK4.o⟩,HA4.o⟩
theorem Qgk (w:World)(hp:Nat→Option Int)(h:Qcx w G g n hp)(k:Nat)(hk:k<n)(x:Int)(h0:0≤x)(h1:x≤1152921504606846976) :
 Calls prog 131 #[.pointer (some ⟨g,0,none⟩),.int .i64 k,.int .i64 x] w fun e w'=>e=.returned (.bool (Rdi hp k x))∧Qcx w' G g n (Qem hp k x)∧Aft G w w':=by
 obtain ⟨A,gc,gs,m,c,R,C,S,hw,hs,ho,hin⟩:=h;have hkc:k<C.length:=by rw [hs.lc];exact hk
 cases hv:hp k with
 | none =>have hn:k ∉ R:=inAt_out hs ((hin k).symm.trans hv);refine (Rfh w hw hs ho k hk hn x h0 h1).mono ?_;rintro e w' ⟨rfl,⟨A',c',R',S',k1,k2,k3,k4⟩,ha⟩;refine ⟨by simp [Rdi,hv],⟨A',gc,gs,m+1,c',R',_,S',k1,k2,k3,fun q=>?_⟩,ha⟩;rw [Qzp hkc k4];unfold Qem;by_cases e:q=k;{rw [if_pos e,if_pos e,hv]};{rw [if_neg e,if_neg e];exact hin q}
 | some y =>obtain ⟨hm,hy⟩:=Rfm ((hin k).symm.trans hv);obtain ⟨i,hi,_,_,_⟩:=hs.in_ hm;by_cases hxy:y≤x;{refine (Rby w hw hs k i hk hi x y h0 h1 hy hxy).mono ?_;rintro e w' ⟨rfl,rfl⟩;refine ⟨by simp [Rdi,hv,hxy],⟨A,gc,gs,m,c,R,C,S,hw,hs,ho,fun q=>?_⟩,Aft.refl _ _⟩;unfold Qem;by_cases e:q=k;{rw [if_pos e,hv,e,←hin k,hv];simp [hxy]};{rw [if_neg e];exact hin q}};{refine (Rbx w hw hs ho k i hk hi x y h0 h1 hy Oo).mono ?_;rintro e w' ⟨rfl,⟨A',c',R',S',k1,k2,k3,k4⟩,ha⟩;refine ⟨by simp [Rdi,hv];omega,⟨A',gc,gs,m,c',R',_,S',k1,k2,k3,fun q=>?_⟩,ha⟩;rw [Qzp hkc (r:=R) (fun q=>by rw [k4 q];exact ⟨.inl,fun h=>h.elim id (fun e=>e▸hm)⟩)];unfold Qem;by_cases e:q=k;{rw [if_pos e,if_pos e,hv];simp [hxy]};{rw [if_neg e,if_neg e];exact hin q}}
end
theorem Rie (A:Oz)(n c:Nat)(t:Qgc)(i o:Nat)(w:World)(h:RdI w A n t.costs)(ht:Qtn t) (hi:(i:Int)<t.ins) (ho:(o:Int)<t.outs) :
 Calls prog 212 #[.agg #[.int .i64 t.ins,.int .i64 t.outs,.slice A n c],.int .i64 i,.int .i64 o] w fun e w'=>∃ x,t.costs[i*t.outs.toNat+o]?=some x∧e=.returned (.int .i64 x)∧Bw w w':=by
 obtain ⟨p,q,cs⟩:=t;simp only at h hi ho ⊢;have i0:0≤p:=ht.i0;have i16:p≤16:=ht.i16;have o0:0≤q:=ht.o0;have o16:q≤16:=ht.o16;have hm:=Quz i0 i16 o0 o16;have hl:(cs.length:Int)=p*q:=ht.len;have hk:(i:Int)*q+o<p*q:=by{exact Kdk};have hk0:0≤(i:Int)*q:=Int.mul_nonneg Oo o0;obtain ⟨k,hkk⟩:∃ k:Nat,(k:Int)=i*q+o:=⟨((i:Int)*q+o).toNat,Oo⟩;have hke:i*q.toNat+o=k:=by{exact Kdq};rw [hke];have hkl:k<n:=by rw [←h.1];omega
 obtain ⟨b,oo,x,hA,hx,hc⟩:=h.at_ hkl;subst hA;have hn:n≤256:=by rw [←h.1];omega
 have HSD:=Zh (fun V=>Rak p q V i0 i16 o0 o16);have e1:IntKind.i64.wrap ((i:Int)*q)=(i:Int)*q:=IntWalk.i64_in _ Oo;have e2:IntKind.i64.wrap ((i:Int)*q+o)=(k:Int):=by rw [←hkk];exact IntWalk.i64_in _ Oo
 have i1:((k:Int))<(n:Int):=Oo
 have HX:=Zh hx;have g1:decide ((i:Int)<0)=false:=Sm
 have g2:decide (p≤(i:Int))=false:=by simp;omega
 have g3:decide ((o:Int)<0)=false:=Sm
 have g4:decide (q≤(o:Int))=false:=by simp;omega
 clear h ht hl hk hkk hke hx hm hk0;go_enter func212,ntmps212
 have hcA:∀ ob,(w.alloc ob).cell? ⟨b,oo+k,none⟩=some (.int .i64 x):=fun ob=>Zc ((Zr _ w).alloc (Zn _) ob) (Zn _) hc
 go_wp2_with fail
 with_reducible refine (HSD.o _).mono ?_
 rintro e w' ⟨rfl,rfl⟩;go_wp2_with fail
 go_ret;exact ⟨x,HX.o,rfl,Qag⟩
theorem gVert_ok (g v:Nat)(N:Qak)(w:World)(h:Qfg w g N)(hv:v<N.vs.length):Calls prog 211 #[.pointer (some ⟨g,0,none⟩),.int .i64 v] w fun e w'=>e=.returned (.bool true)∧w=w':=by
 obtain ⟨A,B,C,I,O,P,n,m,k,c,d,e,ci,co,cp,h⟩:=h;have hn0:=h.n0;have hnn:N.vs.length=n:=h.net.1.1;have hlv:=h.ok.lv;have i1:0≤(v:Int):=Oo
 have i2:(v:Int)<n:=Oo
 clear h;go_enter func211,ntmps211
 go_wp2;exact Kax
theorem Qrr (g v:Nat)(N:Qak)(w:World)(h:Qfg w g N)(hv:v<N.vs.length):Calls prog 169 #[.pointer (some ⟨g,0,none⟩),.int .i64 v] w fun e w'=>∃ A n c,e=.returned (.slice A n c)∧Own w' w.heap.size 3 1 A n c (Qae (idx (·.1) N.ar (v:Int)))∧Bw w w':=by
 obtain ⟨A,B,C,I,O,P,n,m,k,c,d,e,ci,co,cp,h⟩:=h;have hn1:=h.n0;have hn4:=h.n4;have hlv:=h.ok.lv;have hnn:N.vs.length=n:=h.net.1.1;obtain ⟨b,o,A',n',c',l,hO,hl,h1,h2,h3,h4⟩:=h.outs.at_ (i:=v) Oo;rw [Qdw Oo] at hl;cases hl;subst hO;have hn':n'≤16384:=by{rw [←h2.1];have:=Qhi (·.1) N.ar N.ar.length (v:Int);rw [List.take_length] at this;have:=h.ok.la;omega};have HC:=Zh (Qkv A' n' c' _ w h2.rds (Qaq _) Oo);have HV:=Zh (gVert_ok g v N w ⟨_,_,_,_,_,_,_,_,_,_,_,_,_,_,_,h⟩ hv);have i1:0≤(v:Int):=Oo
 have i2:(v:Int)<n:=Oo
 clear h h2;go_enter func169,ntmps169
 go_wp2_with fail
 with_reducible refine HV.o.mono ?_
 rintro e w' ⟨rfl,rfl⟩;go_wp2_with fail
 with_reducible refine HC.o.mono ?_
 rintro e w' ⟨A2,c2,rfl,ho,hb⟩;have HO:=Zh ho;have HB:=Zh hb;clear ho hb;go_wp2_with fail
 go_ret;exact ⟨_,_,_,rfl,HO.o,HB.o⟩
def Qal (N:Qak)(a b:Nat):Int :=
 match N.ar[a]?,N.ar[b]? with
 | some x,some y=>if x.2.1=y.1 then (match N.vs[x.2.1.toNat]? with
  | some v=>(match N.ts[v.2.2.toNat]? with
   | some t=>t.costs.getD ((Qje N.ar a x).1.toNat*t.outs.toNat+(Qje N.ar b y).2.toNat) 1152921504606846976
   | none=>1152921504606846976)
  | none=>1152921504606846976) else 1152921504606846976
 | _,_=>1152921504606846976
theorem Qmx {f:Tri→Int}{l:List Tri}{k:Nat}{a:Tri}{v:Int} (h:l[k]?=some a) (hv:f a=v):(idx f (l.take k) v).length<l.countP (fun x=>f x == v):=by rw [Rfk];have h1:(l.take (k+1)).countP (fun x=>f x == v)=(l.take k).countP (fun x=>f x == v)+1:=by{rw [List.take_add_one,h,List.countP_append];simp [hv]};have h2:=(List.take_sublist (k+1) l).countP_le (p:=fun x=>f x == v);omega
theorem Qrt (g a b:Nat)(N:Qak)(x y:Tri)(w:World)(h:Qfg w g N) (hx:N.ar[a]?=some x) (hy:N.ar[b]?=some y) :
 Calls prog 170 #[.pointer (some ⟨g,0,none⟩),.int .i64 a,.int .i64 b] w fun e w'=>e=.returned (.int .i64 (Qal N a b))∧Bw w w':=by
 have hla:=(Zs hx).1;have hlb:=(Zs hy).1;have HA:=Zh (fun V (hV:Bw w V)=>Qnq g N a V (h.below hV) Oo Oo);have HB:=Zh (fun V (hV:Bw w V)=>Qnq g N b V (h.below hV) Oo Oo);have hax:=(show Qar N from by obtain ⟨A,B,C,I,O,P,n,m,k,c,d,e,ci,co,cp,h⟩:=h;exact h.ok).arcs x (Zm hx);obtain ⟨A,B,C,I,O,P,n,m,k,c,d,e,ci,co,cp,h⟩:=h;have hm:=h.ok.arLe h.net.2.1.1;have hlm:N.ar.length=m:=h.net.2.1.1;have hln:N.vs.length=n:=h.net.1.1;have hn4:=h.ok.lv;obtain ⟨bb,o,x1,x2,x3,rfl,hx',ax,ay,az⟩:=h.net.2.1.at_ (i:=a) Oo;rw [hx] at hx';cases hx';obtain ⟨bb',o',y1,y2,y3,e',hy',bx,by_,bz⟩:=h.net.2.1.at_ (i:=b) Oo;cases e';rw [hy] at hy';cases hy';have n1:=h.n1;have i1:0≤(a:Int):=Oo
 have i2:(a:Int)<m:=Oo
 have i3:0≤(b:Int):=Oo
 have i4:(b:Int)<m:=Oo
 have HSX:=Zh (show ∀ V,Bw w V→V.cell? ⟨g,1,none⟩=some (.slice (some ⟨bb,o,none⟩) m d)∧V.cell? ⟨bb,o+a*3+1,none⟩=some (.int .i64 x2)∧V.cell? ⟨bb,o+b*3,none⟩=some (.int .i64 y1) from
  fun V hV=>⟨Zc hV (Zn _) n1,Zc hV (Zn _) ay,Zc hV (Zn _) bx⟩)
 have hay:=h.ok.arcs _ (Zm hy);obtain ⟨v,rfl⟩:∃ v:Nat,x2=(v:Int):=⟨x2.toNat,by have:=hax.g0;simp only at this;omega⟩;have hvn:v<n:=by have:=hax.g1;simp only at this;omega
 obtain ⟨b2,o2,v1,v2,v3,hA2,hv,vx,vy,vz⟩:=h.net.1.at_ (i:=v) hvn;subst hA2;have hvo:=h.ok.verts _ (Zm hv);obtain ⟨t,rfl⟩:∃ t:Nat,v3=(t:Int):=⟨v3.toNat,by have:=hvo.t0;simp only at this;omega⟩;have htl:N.ts.length=k:=h.net.2.2.1;have htk:t<k:=by have:=hvo.t1;simp only at this;omega
 obtain ⟨b3,o3,tb,hA3,htb,t0,t1,AT,nT,cT,t2,hrd,hnT,hcT⟩:=h.net.2.2.at_ htk;subst hA3;have hto:=h.ok.tabs tb (Zm htb);have hk:=h.ok.lt;obtain ⟨b4,o4,pa1,pa2,hA4,hpa,pa,pb⟩:=h.plc.at_ (i:=a) Oo;subst hA4;rw [Qsn hx] at hpa;obtain ⟨b4',o4',pb1,pb2,e4,hpb,qa,qb⟩:=h.plc.at_ (i:=b) Oo;cases e4;rw [Qsn hy] at hpb;have n0:=h.n0;have n2:=h.n2;have n5:=h.n5;have hmt:=h.ok.meet v _ tb hv (by simpa using htb);obtain ⟨i,hi⟩:∃ i:Nat,i=(idx (·.2.1) (N.ar.take a) (v:Int)).length:=⟨_,rfl⟩;have hip:(i:Int)<tb.ins:=by rw [←hmt.1,hi];exact_mod_cast Qmx (f:=(·.2.1)) hx rfl
 have hpa1:pa1=(i:Int):=by simp only [Qje,Option.some.injEq,Prod.mk.injEq] at hpa;rw [hi];exact hpa.1.symm
 subst hpa1;obtain ⟨q,hq⟩:∃ q:Nat,q=(idx (·.1) (N.ar.take b) y1).length:=⟨_,rfl⟩;have hqp:y1=(v:Int)→(q:Int)<tb.outs:=fun e=>by rw [←hmt.2,hq,e];exact_mod_cast Qmx (f:=(·.1)) hy e
 have hpb2:pb2=(q:Int):=by simp only [Qje,Option.some.injEq,Prod.mk.injEq] at hpb;rw [hq];exact hpb.2.symm
 subst hpb2
 have HTN:=Zh (show ∀ z,y1=(v:Int)→tb.costs[i*tb.outs.toNat+q]?=some z→Qal N a b=z from fun z e hz=>by
  unfold Qal;rw [hx,hy];simp only [if_pos e.symm,Yl,hv,htb,Qje,←hi,←hq];rw [Ya,hz]
  rfl)
 have i5:0≤(v:Int):=Oo
 have i6:(v:Int)<n:=Oo
 have i7:0≤(t:Int):=Oo
 have i8:(t:Int)<k:=Oo
 have HTA:=Zh (fun V (hV:Bw w V) (e:y1=(v:Int))=>Rie AT nT cT tb i q V (hrd.below hV) hto hip (hqp e))
 have HY:=Zh (show ∀ V,Bw w V→V.cell? ⟨g,0,none⟩=some (.slice (some ⟨b2,o2,none⟩) n c)∧V.cell? ⟨g,2,none⟩=some (.slice (some ⟨b3,o3,none⟩) k e)∧V.cell? ⟨g,5,none⟩=some (.slice (some ⟨b4,o4,none⟩) m cp) ∧
  V.cell? ⟨b2,o2+v*3,none⟩=some (.int .i64 v1)∧V.cell? ⟨b2,o2+v*3+1,none⟩=some (.int .i64 v2)∧V.cell? ⟨b2,o2+v*3+2,none⟩=some (.int .i64 t) ∧
  V.cell? ⟨b3,o3+t*3,none⟩=some (.int .i64 tb.ins)∧V.cell? ⟨b3,o3+t*3+1,none⟩=some (.int .i64 tb.outs)∧V.cell? ⟨b3,o3+t*3+2,none⟩=some (.slice AT nT cT) ∧
  V.cell? ⟨b4,o4+a*2,none⟩=some (.int .i64 i)∧V.cell? ⟨b4,o4+b*2+1,none⟩=some (.int .i64 q) from
  fun V hV=>⟨Zc hV (Zn _) n0,Zc hV (Zn _) n2,Zc hV (Zn _) n5,Zc hV (Zn _) vx,Zc hV (Zn _) vy,Zc hV (Zn _) vz,Zc hV (Zn _) t0,Zc hV (Zn _) t1,Zc hV (Zn _) t2,Zc hV (Zn _) pa,Zc hV (Zn _) qb⟩)
 clear n0 n2 n5 vx vy vz t0 t1 t2 pa pb qa qb hpa hpb hrd hip hqp hmt hv htb hi hq;clear h n1 ax ay az bx by_ bz;go_enter func170,ntmps170
 go_wp2_with fail
 refine wp_region_held_drew (S:=fun V=>Bw w V) Kf (Zr _ _).drew (fun _=>?_);refine tzb 0 8 ?_;refine Zk 2 (fun K hK=>?_);go_simp;with_reducible refine (HA.o _ Qag).mono ?_
 rintro e w' ⟨rfl,rfl⟩;go_simp;refine hK.out _ _ Qag (fun _=>?_);clear hK K;refine tzd 3 11 ?_;refine Zk 7 (fun K hK=>?_);go_simp;with_reducible refine (HB.o _ Qag).mono ?_
 rintro e w' ⟨rfl,rfl⟩;go_simp;refine hK.out _ _ Qag (fun _=>?_);clear hK K;refine tzd 8 16 ?_;refine tzd 12 20 ?_;refine tzd 16 24 ?_;refine tzd 20 28 ?_;refine tzd 24 32 ?_;refine tzb 28 36 ?_;refine tz 30 38 ?_;refine Zd ?_;by_cases hxy:(v:Int)=y1;{(have e1:((v:Int) != y1)=false:=by simp [hxy]);subst hxy;have HSX1:=HSX;clear HSX;have HSX:=Zh (fun V hV=>And.intro (HSX1.out V hV) (HY.o V hV));(go_wp2_with fail);(refine wp_region_held_drew (S:=fun V=>Bw w V) Kf (Zr _ _).drew.drew (fun _=>?_);refine tzd 0 39 ?_;refine tzd 4 43 ?_;refine tzd 8 47 ?_;refine tzd 12 51 ?_;refine Zk 16 (fun K hK=>?_);go_simp;refine hK.out _ _ Qag (fun _=>?_);clear hK K;refine Zk 17 (fun K hK=>?_);go_simp;refine hK.out _ _ Qag (fun _=>?_);clear hK K;refine Zd ?_;obtain ⟨W2,hW2⟩:=Zx ((w.alloc (.cells #[.int .i64 v1,.int .i64 v2,.int .i64 (t:Int)] 196)).drew.drew);have hb2:Bw w W2:=by rw [hW2];exact Qag);(have hbl:Blk W2 w.heap.size 196 #[.int .i64 v1,.int .i64 v2,.int .i64 (t:Int)]:=by rw [hW2];exact Qbi);have c2:W2.cell? ⟨w.heap.size,2,none⟩=some (.int .i64 (t:Int)):=Zq hbl;have hlt:=hbl.lt;rw [←hW2];have HSX2:=HSX;clear HSX hbl hW2 HY HSX1;have HSX:=Zh (fun V (hV:Bw w V∧V.cell? ⟨w.heap.size,2,none⟩=some (.int .i64 (t:Int)))=>And.intro hV.2 (HSX2.out V hV.1));(go_wp2_with fail);(refine wp_region_held_drew (S:=fun V=>Bw w V∧V.cell? ⟨w.heap.size,2,none⟩=some (.int .i64 (t:Int))) Kf ⟨hb2.drew,c2⟩ (fun hS0=>?_);refine tzd 0 55 ?_;refine tzd 4 59 ?_;refine tzd 8 63 ?_;refine tzd 12 67 ?_;refine tzd 16 71 ?_;refine tzd 20 75 ?_;refine tz 24 79 ?_;refine Zk 25 (fun K hK=>?_);go_simp;with_reducible refine (HTA.o _ hS0.1 trivial).mono ?_);rintro e w' ⟨z,hz,rfl,hb'⟩;have hb3:Bw w w':=hS0.1.trans (hb'.mono hS0.1.size);have c3:w'.cell? ⟨w.heap.size,2,none⟩=some (.int .i64 (t:Int)):=Zc hb' (Zn _) c2;have HZ:=Zh (HTN.o z trivial hz);clear hz;go_simp;refine hK.out _ _ ⟨hb3,c3⟩ (fun _=>?_);clear hK K;refine tz 26 6 ?_;refine Zd ?_;(go_wp2_with fail);go_ret;rw [HZ.o];exact ⟨rfl,hb3⟩};{(have e1:((v:Int) != y1)=true:=by simp [hxy]);(go_wp2_with fail);go_ret;exact ⟨by rw [show Qal N a b=1152921504606846976 by unfold Qal;rw [hx,hy];simp [hxy]];rfl,Qag⟩}
