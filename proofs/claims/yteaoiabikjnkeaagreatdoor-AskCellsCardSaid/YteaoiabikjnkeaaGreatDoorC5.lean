/- Parts of the proof: Hq, Hy, Hs, Hz, Gb. -/
import Derived.Test.YteaoiabikjnkeaaGreatDoorC1
import Derived.Test.YteaoiabikjnkeaaGreatDoorC4
namespace Go.Proofs.YteaoiabikjnkeaaGreatDoor
theorem Ord.congr {c c':Nat→Int}{len:Nat}(h:Ord c len)(e:∀ x,x<len→c' x=c x):Ord c' len:=fun i h0 hl=>by rw [e i hl,e _ (by omega)];exact h i h0 hl
theorem UpO.congr {c c':Nat→Int}{len p:Nat}(h:UpO c len p)(e:∀ x,x<len→c' x=c x):UpO c' len p :=
 ⟨fun i h0 hl hn=>by rw [e i hl,e _ (by omega)];exact h.o i h0 hl hn,fun i h0 hl hp hq=>by rw [e i hl,e _ (by omega)];exact h.g i h0 hl hp hq⟩
theorem Qgx.congr {c c':Nat→Int}{len p:Nat}(h:Qgx c len p)(e:∀ x,x<len→c' x=c x):Qgx c' len p :=
 ⟨fun i h0 hl hn=>by rw [e i hl,e _ (by omega)];exact h.o i h0 hl hn,fun i h0 hl hp hq=>by rw [e i hl,e _ (by omega)];exact h.g i h0 hl hp hq⟩
theorem Qoh {r:List Nat}{i j:Nat}(hi:i<r.length)(hj:j<r.length)(k:Nat):k∈Qdp r i j↔k∈r:=by
 simp only [List.mem_iff_getElem?]
 constructor
 · rintro ⟨x,hx⟩
   rw [Qdg hi hj] at hx
   by_cases e:x=j
   · rw [if_pos e] at hx;exact ⟨_,hx⟩
   · rw [if_neg e] at hx
     by_cases e2:x=i
     · rw [if_pos e2] at hx;exact ⟨_,hx⟩
     · rw [if_neg e2] at hx;exact ⟨_,hx⟩
 · rintro ⟨x,hx⟩
   by_cases e:x=i
   · subst e;exact ⟨j,by rw [Qdg hi hj,if_pos rfl];exact hx⟩
   · by_cases e2:x=j
     · subst e2
       exact ⟨i,by rw [Qdg hi hj,if_neg (fun e3=>e e3.symm),if_pos rfl];exact hx⟩
     · exact ⟨x,by rw [Qdg hi hj,if_neg e2,if_neg e];exact hx⟩
theorem HpS.key {n:Nat}{r:List Nat}{cs:List Int}{st:List Nat}(h:HpS n r cs st){i:Nat}(hi:i<r.length):∃ k x,r[i]?=some k∧k<n∧cs[k]?=some x∧at_ r cs i=x:=by
 have h1:=Qbm 0 hi;have h2:=(h.seat i _ h1).1;refine ⟨_,_,h1,h2,Qbm 0 (by rw [h.lc];exact h2),rfl⟩
theorem Qiq:∀ (n:Nat)(l:List Nat),l.Nodup→(∀ k∈l,k<n)→l.length≤n
 | 0,l,_,h=>by
  cases l with
  | nil=>simp
  | cons a l=>exact absurd (h a (by simp)) (by omega)
 | n+1,l,hn,h=>by
  have h1:=Qiq n (l.erase n) (hn.erase n) (fun k hk=>by
   have h2:=h k (List.mem_of_mem_erase hk);have h3:k≠n:=fun e=>by rw [e] at hk;exact (List.Nodup.not_mem_erase hn) hk
   omega)
  have h4:l.length≤(l.erase n).length+1:=by
   rw [List.length_erase]
   split <;> omega
  omega
theorem HpS.le {n:Nat}{r:List Nat}{cs:List Int}{st:List Nat}(h:HpS n r cs st):r.length≤n:=by
 refine Qiq n r ?_ (fun k hk=>?_)
 · refine List.pairwise_iff_getElem.2 (fun i j hi hj hij e=>?_)
   have h1:=Zg hi;have h2:=Zg hj;rw [←e] at h2;exact absurd (h.nodup h1 h2) (by omega)
 · obtain ⟨i,hi⟩:=List.mem_iff_getElem?.1 hk
   exact (h.seat i k hi).1
theorem up_step {n p:Nat}{r:List Nat}{cs:List Int}{st:List Nat}(h:HpS n r cs st) (hu:UpO (at_ r cs) r.length p) (h0:0<p) (hl:p<r.length) (hc:at_ r cs p≤at_ r cs ((p-1) / 2)) :
 HpS n (Qdp r p ((p-1) / 2)) cs (Qik r st p ((p-1) / 2))∧UpO (at_ (Qdp r p ((p-1) / 2)) cs) (Qdp r p ((p-1) / 2)).length ((p-1) / 2) :=
 ⟨h.swap hl (by omega),by rw [Qev];exact (hu.step h0 hl hc).congr (fun x hx=>Qxp hl (by omega) x hx)⟩
theorem Qxs {n p m:Nat}{r:List Nat}{cs:List Int}{st:List Nat}(h:HpS n r cs st) (hd:Qgx (at_ r cs) r.length p) (h0:0<m) (hl:m<r.length) (hm:(m-1) / 2=p) (hc:at_ r cs m≤at_ r cs p) (ho:∀ i,0<i→i<r.length→(i-1) / 2=p→at_ r cs m≤at_ r cs i) :
 HpS n (Qdp r p m) cs (Qik r st p m)∧Qgx (at_ (Qdp r p m) cs) (Qdp r p m).length m :=
 ⟨h.swap (by omega) hl,by rw [Qev];exact (hd.step h0 hl hm hc ho).congr (fun x hx=>Qxp (by omega) hl x hx)⟩
end Go.Proofs.YteaoiabikjnkeaaGreatDoor
namespace Go.Proofs.YteaoiabikjnkeaaGreatDoor
open Go.RowKit Tryz
attribute [local go_sem ↓] Go.wp_at_zero Go.wp_at_succ
section
variable {G:Nat→Prop} {g gc gs gr n m c:Nat} {R:List Nat} {C:List Int} {S:List Nat}
set_option maxHeartbeats 1000000 in
theorem Qxy (w:World) (h:Qbi w G g (some ⟨gr,0,none⟩) gc gs n m c R C S) (hp:HpS n R C S) (p:Nat) (hpm:p<m) (hu:UpO (at_ R C) m p) :
 Calls prog 173 #[.pointer (some ⟨g,0,none⟩),.int .i64 p] w fun e w'=>e=.returned (.tuple #[])∧∃ R' S',Qbi w' G g (some ⟨gr,0,none⟩) gc gs n m c R' C S'∧HpS n R' C S'∧Ord (at_ R' C) m∧(∀ k,k∈R'↔k∈R)∧Aft G w w':=by
 have hcap:=h.cap;have HH:=Zh h;have HP:=Zh hp;have HU:=Zh hu;clear h hp hu
 go_enter func173,ntmps173
 go_wp2_with fail
 go_loopw [1] (fun q W=>∃ (p:Nat) (R' S':List Nat),q=.int .i64 p∧p<m∧Qbi W G g (some ⟨gr,0,none⟩) gc gs n m c R' C S'∧HpS n R' C S'∧UpO (at_ R' C) m p∧(∀ k,k∈R'↔k∈R)∧Aft G w W) (fun q _=>(intOf q).toNat)
 case atStart=>exact ⟨p,R,S,rfl,hpm,HH.out,HP.out,HU.out,fun _=>Iff.rfl,Aft.refl _ _⟩
 case round =>
  obtain ⟨p,R',S',rfl,hpm,hw,hp,hu,hk,ha⟩:=hrel;have hlr:=hw.lr
  by_cases h0:p=0
  · subst h0
    have HW:=Zh hw;have HO:=Zh (hu.done (.inl rfl));have HQ:=Zh hp;have HK:=Zh hk;have HA:=Zh ha;clear hw hp hu hk ha
    go_wp2_with fail
    go_end0
    exact ⟨rfl,R',S',HW.out,HQ.out,HO.out,HK.out,HA.out⟩
  · have i1:(0:Int)<(p:Int):=by omega
    obtain ⟨a,x,ka,kb,kc,kd⟩:=hp.key (i:=p) (by omega);obtain ⟨b,y,la,lb,lc,ld⟩:=hp.key (i:=(p-1) / 2) (by omega);have HAH:=Zh (fun V (hV:Qbi V G g (some ⟨gr,0,none⟩) gc gs n m c R' C S')=>Qkw V hV ka la kc lc lb);have HST:=Zh (fun hc=>up_step hp (by rw [hlr];exact hu) (by omega) (by omega) hc);have HDN:=Zh (fun hc=>hu.done (.inr hc));have HSW:=Zh (fun V (hV:Qbi V G g (some ⟨gr,0,none⟩) gc gs n m c R' C S')=>Qjd V hV ka la kb lb);have HQ:=Zh hp;have HK:=Zh hk;have HW:=Zh hw;have HA:=Zh ha;have HKM:=Zh (Qoh (r:=R') (i:=p) (j:=(p-1) / 2) (by omega) (by omega));have HLT:=Zh hw.lt;clear hw hp hu hk ha ka kb kc la lb lc
    go_wp2_with fail
    rw [show ((p:Int)-1) / 2=(((p-1) / 2:Nat):Int) by omega]
    with_reducible refine (HAH.out _ HW.out).mono ?_
    rintro e w' ⟨rfl,hb⟩;have hw':=HW.out.keep hb;have HW':=Zh hw';have HA':=Zh (HA.out.trans (Aft.below hb HLT.out));clear hw' hb HW HA HAH
    cases hah:hAh x y a b with
    | false =>
     have HO:=Zh (HDN.out (by rw [kd,ld];exact hAh_f hah))
     go_wp2_with fail
     go_end0
     exact ⟨rfl,R',S',HW'.out,HQ.out,HO.out,HK.out,HA'.out⟩
    | true =>
     have HS':=Zh (HST.out (by rw [kd,ld];exact hAh_t hah))
     go_wp2_with fail
     rw [show ((p:Int)-1) / 2=(((p-1) / 2:Nat):Int) by omega]
     with_reducible refine (HSW.out _ HW'.out).mono ?_
     rintro e w'' ⟨rfl,hw2,ha2⟩;have HW2:=Zh hw2;have HA2:=Zh (HA'.out.trans ha2);clear hw2 ha2 HW' HA' HSW
     go_wp2_with fail
     go_roundw
     case rel=>exact ⟨(p-1) / 2,_,_,by rw [show ((p:Int)-1) / 2=(((p-1) / 2:Nat):Int) by omega],by omega,HW2.out,HS'.out.1,by have:=HS'.out.2;rw [Qev,hlr] at this;exact this,fun k=>(HKM.out k).trans (HK.out k),HA2.out⟩
     case measure=>simp [intOf];omega
set_option maxHeartbeats 2000000 in
theorem Qxn (w:World) (h:Qbi w G g (some ⟨gr,0,none⟩) gc gs n m c R C S) (hp:HpS n R C S) (hd:Qgx (at_ R C) m 0) :
 Calls prog 175 #[.pointer (some ⟨g,0,none⟩),.int .i64 0] w fun e w'=>e=.returned (.tuple #[])∧∃ R' S',Qbi w' G g (some ⟨gr,0,none⟩) gc gs n m c R' C S'∧HpS n R' C S'∧Ord (at_ R' C) m∧(∀ k,k∈R'↔k∈R)∧Aft G w w':=by
 have hcap:=h.cap;have hmn:m≤n:=by rw [←h.lr];exact hp.le
 have hn0:=h.n0;have HH:=Zh h;have HP:=Zh hp;have HD:=Zh hd;clear h hp hd
 go_enter func175,ntmps175
 go_wp2_with fail
 go_loopw [1] (fun q W=>∃ (p:Nat) (R' S':List Nat),q=.int .i64 p∧(p<m∨p=0)∧Qbi W G g (some ⟨gr,0,none⟩) gc gs n m c R' C S'∧HpS n R' C S'∧Qgx (at_ R' C) m p∧(∀ k,k∈R'↔k∈R)∧Aft G w W) (fun q _=>m-(intOf q).toNat)
 case atStart=>exact ⟨0,R,S,rfl,.inr rfl,HH.out,HP.out,HD.out,fun _=>Iff.rfl,Aft.refl _ _⟩
 case round =>
  obtain ⟨p,R',S',rfl,hpm,hw,hp,hd,hk,ha⟩:=hrel;have hlr:=hw.lr;have HQ:=Zh hp;have HDD:=Zh hd;have HK:=Zh hk;have HA:=Zh ha;have HW:=Zh hw;clear hw hp hd hk ha
  go_wp2_with fail
  go_loopw [4,5] (fun x y W=>Below wr.heap.size wr W∧∃ l j:Nat,x=.int .i64 l∧y=.int .i64 j∧2*p+1≤j∧j≤2*p+3∧(l=p∨(2*p+1≤l∧l<j∧l<m))∧at_ R' C l≤at_ R' C p∧∀ i,2*p+1≤i→i<j→i<m→at_ R' C l≤at_ R' C i) (fun _ y _=>2*p+3-(intOf y).toNat)
  case atStart=>exact ⟨Zr _ _,p,2*p+1,rfl,by go_num,by omega,by omega,.inl rfl,Int.le_refl _,fun i h1 h2=>by omega⟩
  case round =>
   obtain ⟨hb,l,j,rfl,rfl,h1,h2,h3,h4,h5⟩:=hrel;have HB:=Zh hb;have hwV:=HW.out.keep hb;have f0:=hwV.f0
   by_cases hj:j≤2*p+2∧j<m
   · obtain ⟨hj2,hjm⟩:=hj
     have i1:(j:Int)≤2*(p:Int)+2:=by omega
     have i2:(j:Int)<(m:Int):=by omega
     obtain ⟨a,x,ka,kb,kc,kd⟩:=HQ.out.key (i:=j) (by omega);obtain ⟨b,y,la,lb,lc,ld⟩:=HQ.out.key (i:=l) (by omega);have HAH:=Zh (Qkw _ hwV ka la kc lc lb);have H4:=Zh h4;have H5:=Zh h5;clear hb hwV ka kb kc la lb lc h4 h5
     go_wp2_with fail
     with_reducible refine HAH.out.mono ?_
     rintro e w' ⟨rfl,hb'⟩;have HB':=Zh (HB.out.trans (hb'.mono HB.out.size));clear hb' HB HAH
     cases hah:hAh x y a b with
     | false =>
      have hle:=hAh_f hah
      go_wp2_with fail
      go_roundw
      case rel =>
       refine ⟨HB'.out,l,j+1,rfl,by go_num,by omega,by omega,by omega,H4.out,fun i g1 g2 g3=>?_⟩
       by_cases e:i=j
       · subst e;rw [kd,ld];exact hle
       · exact H5.out i g1 (by omega) g3
      case measure=>simp [intOf];omega
     | true =>
      have hle:=hAh_t hah
      go_wp2_with fail
      go_roundw
      case rel =>
       refine ⟨HB'.out,j,j+1,rfl,by go_num,by omega,by omega,by omega,?_,fun i g1 g2 g3=>?_⟩
       · have:=H4.out;omega
       · by_cases e:i=j
         · subst e;exact Int.le_refl _
         · have:=H5.out i g1 (by omega) g3;omega
      case measure=>simp [intOf];omega
   · have HDN:=Zh (show ∀ i,0<i→i<m→(i-1) / 2=p→at_ R' C l≤at_ R' C i from fun i g1 g2 g3=>h5 i (by omega) (by omega) g2)
     have HW':=Zh hwV;have HA':=Zh (HA.out.trans (Aft.below HB.out HW.out.lt));have HX:((2*(p:Int)+2<(j:Int))∨((j:Int)≤2*(p:Int)+2∧(m:Int)≤(j:Int))):=by omega
     clear hb hwV h5 HB HW HA
     by_cases hlp:l=p
     · subst hlp
       have HO:=Zh (HDD.out.done HDN.out)
       rcases HX with hx|⟨hx,hy⟩
       · have e1:decide ((j:Int)≤2*(l:Int)+2)=false:=by simp;omega
         go_wp2_with fail
         (try simp only [Exit.inBlock,Exit.then]);refine bodyPost_ret (results_none rfl _ _ _) rfl ?_
         exact ⟨rfl,R',S',HW'.out,HQ.out,HO.out,HK.out,HA'.out⟩
       · have e1:decide ((j:Int)<(m:Int))=false:=by simp;omega
         go_wp2_with fail
         (try simp only [Exit.inBlock,Exit.then]);refine bodyPost_ret (results_none rfl _ _ _) rfl ?_
         exact ⟨rfl,R',S',HW'.out,HQ.out,HO.out,HK.out,HA'.out⟩
     · obtain ⟨a,x,ka,kb,kc,kd⟩:=HQ.out.key (i:=p) (by omega)
       obtain ⟨b,y,la,lb,lc,ld⟩:=HQ.out.key (i:=l) (by omega);have HSW:=Zh (Qjd _ HW'.out ka la kb lb);have HST:=Zh (Qxs HQ.out (p:=p) (m:=l) (by rw [hlr];exact HDD.out) (by omega) (by omega) (by omega) h4 (by rw [hlr];exact HDN.out));have HKM:=Zh (Qoh (r:=R') (i:=p) (j:=l) (by omega) (by omega));have hlp':¬(l:Int)=(p:Int):=by omega
       clear ka kb kc la lb lc
       rcases HX with hx|⟨hx,hy⟩
       · have e1:decide ((j:Int)≤2*(p:Int)+2)=false:=by simp;omega
         go_wp2_with fail
         with_reducible refine HSW.out.mono ?_
         rintro e w'' ⟨rfl,hw2,ha2⟩;have HW2:=Zh hw2;have HA2:=Zh (HA'.out.trans ha2);clear hw2 ha2 HW' HA' HSW
         go_wp2_with fail
         go_roundw
         case rel=>exact ⟨l,_,_,rfl,by omega,HW2.out,HST.out.1,by have:=HST.out.2;rw [Qev,hlr] at this;exact this,fun k=>(HKM.out k).trans (HK.out k),HA2.out⟩
         case measure=>simp [intOf];omega
       · have e1:decide ((j:Int)<(m:Int))=false:=by simp;omega
         go_wp2_with fail
         with_reducible refine HSW.out.mono ?_
         rintro e w'' ⟨rfl,hw2,ha2⟩;have HW2:=Zh hw2;have HA2:=Zh (HA'.out.trans ha2);clear hw2 ha2 HW' HA' HSW
         go_wp2_with fail
         go_roundw
         case rel=>exact ⟨l,_,_,rfl,by omega,HW2.out,HST.out.1,by have:=HST.out.2;rw [Qev,hlr] at this;exact this,fun k=>(HKM.out k).trans (HK.out k),HA2.out⟩
         case measure=>simp [intOf];omega
end
end Go.Proofs.YteaoiabikjnkeaaGreatDoor
namespace Go.Proofs.YteaoiabikjnkeaaGreatDoor
def Qph (R:List Nat)(C:List Int)(k:Nat):Option Int:=if k∈R then C[k]? else none
section
variable {n k:Nat} {r st:List Nat} {cs:List Int} {x:Int}
theorem HpS.out (h:HpS n r cs st)(hk:k<n):st[k]?=some 0↔k ∉ r:=by
 obtain ⟨s,hs⟩:∃ s,st[k]?=some s:=⟨_,Qbm 0 (by rw [h.ls];exact hk)⟩
 constructor
 · intro h0 hm
   obtain ⟨i,hi⟩:=List.mem_iff_getElem?.1 hm;have:=(h.seat i k hi).2;rw [h0] at this
   injection this with this
   omega
 · intro hm
   rcases s with _|s
   · exact hs
   · exact absurd (List.mem_iff_getElem?.2 ⟨s,h.none_ k s hs⟩) hm
theorem HpS.in_ (h:HpS n r cs st)(hm:k∈r):∃ i,r[i]?=some k∧i<r.length∧k<n∧st[k]?=some (i+1):=by
 obtain ⟨i,hi⟩:=List.mem_iff_getElem?.1 hm;exact ⟨i,hi,(Zs hi).1,(h.seat i k hi).1,(h.seat i k hi).2⟩
theorem HpS.put (h:HpS n r cs st)(hk:k<n)(hn:k ∉ r):HpS n (r ++[k]) (cs.set k x) (st.set k (r.length+1)):=by
 refine ⟨by rw [List.length_set];exact h.lc,by rw [List.length_set];exact h.ls,fun i q hi=>?_,fun q i hq=>?_⟩
 · rw [List.getElem?_append] at hi
   by_cases hl:i<r.length
   · rw [if_pos hl] at hi
     have h1:=h.seat i q hi;have hne:k≠q:=fun e=>hn (e▸List.mem_iff_getElem?.2 ⟨i,hi⟩)
     exact ⟨h1.1,by rw [List.getElem?_set_ne hne];exact h1.2⟩
   · rw [if_neg hl] at hi
     have h2:i-r.length=0:=by
      rcases Nat.eq_zero_or_pos (i-r.length) with e|e
      · exact e
      · rw [List.getElem?_eq_none (by simp;omega)] at hi;cases hi
     rw [h2] at hi
     cases hi
     refine ⟨hk,?_⟩;rw [List.getElem?_set_self (by rw [h.ls];exact hk)]
     congr 1
     omega
 · by_cases e:k=q
   · subst e
     rw [List.getElem?_set_self (by rw [h.ls];exact hk)] at hq
     injection hq with hq
     have:i=r.length:=by omega
     subst this;simp
   · rw [List.getElem?_set_ne e] at hq
     have h1:=h.none_ q i hq;rw [List.getElem?_append_left (Zs h1).1];exact h1
theorem at_put (hn:k ∉ r):∀ i,i<r.length→at_ (r ++[k]) (cs.set k x) i=at_ r cs i:=fun i hi=>by
 have h1:=Qbm 0 hi;have hne:k≠r.getD i 0:=fun e=>hn (List.mem_iff_getElem?.2 ⟨i,by rw [e];exact h1⟩)
 unfold at_;rw [Qce (d:=0) (show (r ++[k])[i]?=some (r.getD i 0) by rw [List.getElem?_append_left hi];exact h1),List.getD_eq_getElem?_getD,List.getElem?_set_ne hne,←List.getD_eq_getElem?_getD]
theorem ord_put (ho:Ord (at_ r cs) r.length) (hn:k ∉ r):UpO (at_ (r ++[k]) (cs.set k x)) (r.length+1) r.length:=ho.push (at_put hn)
theorem HpS.setC (h:HpS n r cs st):HpS n r (cs.set k x) st:=⟨by rw [List.length_set];exact h.lc,h.ls,h.seat,h.none_⟩
theorem ord_less (h:HpS n r cs st) (ho:Ord (at_ r cs) r.length) {i:Nat} (hi:r[i]?=some k) (hx:x≤at_ r cs i):UpO (at_ r (cs.set k x)) r.length i:=by
 have hl:=(Zs hi).1;have hk:=(h.seat i k hi).1;refine ho.lower (fun j hj hne=>?_) ?_ hl
 · have h1:=Qbm 0 hj
   have hne2:k≠r.getD j 0:=fun e=>hne (h.nodup (by rw [e];exact h1) hi)
   unfold at_;rw [List.getD_eq_getElem?_getD (l:=cs.set k x),List.getElem?_set_ne hne2,←List.getD_eq_getElem?_getD]
 · have:at_ r (cs.set k x) i=x:=by
    unfold at_;rw [Qce hi];exact Qce (by rw [List.getElem?_set_self (by rw [h.lc];exact hk)])
   rw [this];exact hx
def Qif (hp:Nat→Option Int)(k:Nat)(x:Int):Nat→Option Int:=fun q=>if q=k then some (match hp k with|none=>x|some y=>if y≤x then y else x) else hp q
theorem Qrk {r':List Nat}(hl:k<cs.length)(hm:∀ q,q∈r'↔q∈r∨q=k)(q:Nat):Qph r' (cs.set k x) q=if q=k then some x else Qph r cs q:=by
 unfold Qph
 by_cases e:q=k
 · subst e
   rw [if_pos rfl,if_pos ((hm q).2 (.inr rfl)),List.getElem?_set_self hl]
 · rw [if_neg e,List.getElem?_set_ne (fun e2=>e e2.symm)]
   by_cases hq:q∈r
   · rw [if_pos ((hm q).2 (.inl hq)),if_pos hq]
   · rw [if_neg (fun h=>((hm q).1 h).elim hq e),if_neg hq]
theorem Qve {y:Int}(hy:Qph r cs k=some y):k∈r∧cs[k]?=some y:=by
 unfold Qph at hy
 by_cases hm:k∈r
 · rw [if_pos hm] at hy;exact ⟨hm,hy⟩
 · rw [if_neg hm] at hy;cases hy
theorem inAt_out (h:HpS n r cs st)(hy:Qph r cs k=none):k ∉ r:=fun hm=>by
 unfold Qph at hy;rw [if_pos hm] at hy;obtain ⟨i,_,_,hk,_⟩:=h.in_ hm;rw [Qbm 0 (by rw [h.lc];exact hk)] at hy
 cases hy
def Qun (hp:Nat→Option Int)(k:Nat)(x:Int):Bool:=match hp k with|none=>true|some y=>!decide (y≤x)
theorem Qug (h:HpS n r cs st) (ho:Ord (at_ r cs) r.length) {y z:Int} {q:Nat} (hk:r[0]?=some k) (hx:cs[k]?=some y) (hq:Qph r cs q=some z):y≤z:=by
 obtain ⟨hm,hz⟩:=Qve hq;obtain ⟨i,hi,hl,_,_⟩:=h.in_ hm;have h1:=ho.root i hl;unfold at_ at h1;rw [Qce hk,Qce hi,Qce hx,Qce hz] at h1;exact h1
theorem HpS.pop {L:Nat}(h:HpS n r cs st)(hl:r.length=L+1) (hk:r[0]?=some k) :
 HpS n ((Qdp r 0 L).take L) cs ((Qik r st 0 L).set k 0)∧(∀ q,q∈(Qdp r 0 L).take L↔q∈r∧q≠k)∧∀ i,0<i→i<L→at_ ((Qdp r 0 L).take L) cs i=at_ r cs i:=by
 have h1:=h.swap (i:=0) (j:=L) (by omega) (by omega);have hg:∀ x,(Qdp r 0 L)[x]?=if x=L then some k else if x=0 then r[L]? else r[x]?:=fun x=>by rw [Qdg (by omega) (by omega),hk]
 have hL:(Qdp r 0 L)[L]?=some k:=by rw [hg,if_pos rfl]
 have hlen:(Qdp r 0 L).length=L+1:=by rw [Qev];exact hl
 have hkn:k<(Qik r st 0 L).length:=by rw [h1.ls];exact (h.seat 0 k hk).1
 generalize hr1:Qdp r 0 L=r1 at *;generalize hs1:Qik r st 0 L=s1 at *;refine ⟨⟨h1.lc,by rw [List.length_set];exact h1.ls,fun i q hi=>?_,fun q i hq=>?_⟩,fun q=>⟨fun hq=>?_,fun hq=>?_⟩,fun i h0 hi=>?_⟩
 · rw [List.getElem?_take] at hi
   by_cases hil:i<L
   · rw [if_pos hil] at hi
     have hne:k≠q:=fun e=>by rw [←e] at hi;have:=h1.nodup hi hL;omega
     rw [List.getElem?_set_ne hne];exact h1.seat i q hi
   · rw [if_neg hil] at hi;cases hi
 · by_cases e:k=q
   · subst e
     rw [List.getElem?_set_self hkn] at hq
     injection hq with hq
     omega
   · rw [List.getElem?_set_ne e] at hq
     have h2:=h1.none_ q i hq;have hne:i≠L:=fun e2=>by rw [e2,hL] at h2;exact e (Option.some.inj h2)
     have:=(Zs h2).1;rw [List.getElem?_take,if_pos (by omega)];exact h2
 · obtain ⟨i,hi⟩:=List.mem_iff_getElem?.1 hq
   rw [List.getElem?_take] at hi
   by_cases hil:i<L
   · rw [if_pos hil] at hi
     refine ⟨?_,fun e=>by rw [e] at hi;have:=h1.nodup hi hL;omega⟩;have hi2:=hi;rw [hg,if_neg (by omega)] at hi2
     by_cases e:i=0
     · rw [if_pos e] at hi2;exact List.mem_iff_getElem?.2 ⟨_,hi2⟩
     · rw [if_neg e] at hi2;exact List.mem_iff_getElem?.2 ⟨_,hi2⟩
   · rw [if_neg hil] at hi;cases hi
 · obtain ⟨hm,hne⟩:=hq
   obtain ⟨i,hi⟩:=List.mem_iff_getElem?.1 hm;have hil:=(Zs hi).1;have hi0:i≠0:=fun e=>by rw [e,hk] at hi;exact hne (Option.some.inj hi).symm
   by_cases e:i=L
   · refine List.mem_iff_getElem?.2 ⟨0,?_⟩
     rw [List.getElem?_take,if_pos (by omega),hg,if_neg (by omega),if_pos rfl,←e];exact hi
   · refine List.mem_iff_getElem?.2 ⟨i,?_⟩
     rw [List.getElem?_take,if_pos (by omega),hg,if_neg e,if_neg hi0];exact hi
 · have h2:(r1.take L)[i]?=r[i]?:=by rw [List.getElem?_take,if_pos hi,hg,if_neg (by omega),if_neg (by omega)]
   unfold at_;rw [List.getD_eq_getElem?_getD (l:=r1.take L),h2,←List.getD_eq_getElem?_getD]
theorem HpS.popOrd {L:Nat}(h:HpS n r cs st) (ho:Ord (at_ r cs) (L+1)) (hl:r.length=L+1) (hk:r[0]?=some k):Qgx (at_ ((Qdp r 0 L).take L) cs) L 0:=ho.pop (h.pop hl hk).2.2
end
end Go.Proofs.YteaoiabikjnkeaaGreatDoor
namespace Go.Proofs.YteaoiabikjnkeaaGreatDoor
open Go.RowKit Tryz
attribute [local go_sem ↓] Go.wp_at_zero Go.wp_at_succ
theorem hp1_one (x:Int):∀ u∈[Value.int .i64 x],u.oneCell'=true:=Qak [x]
section
variable {G:Nat→Prop} {g gc gs n m c:Nat} {A:Option Addr} {R:List Nat} {C:List Int} {S:List Nat}
def Qcn (W:World)(G:Nat→Prop)(g n:Nat)(hp:Nat→Option Int):Prop :=
 ∃ (A:Option Addr) (gc gs m c:Nat) (R:List Nat) (C:List Int) (S:List Nat),Qbi W G g A gc gs n m c R C S∧HpS n R C S∧Ord (at_ R C) m∧∀ k,hp k=Qph R C k
theorem Qme (w:World)(h:Qbi w G g A gc gs n m c R C S)(k:Nat)(hk:k<n) :
 Calls prog 172 #[.pointer (some ⟨g,0,none⟩),.int .i64 k] w fun e w'=>e=.returned (.bool true)∧w=w':=by
 have f2:=h.f2;have i1:(0:Int)≤(k:Int):=by omega
 have i2:(k:Int)<(n:Int):=by omega
 clear h
 go_enter func172,ntmps172
 go_wp2_with fail
 go_ret
 exact ⟨rfl,rfl⟩
theorem Qdc (w:World)(x:Int)(h0:0≤x)(h1:x≤1152921504606846976) :
 Calls prog 98 #[.int .i64 x] w fun e w'=>e=.returned (.int .i64 x)∧w=w':=by
 have e1:decide (x<0)=false:=by simp;omega
 have e2:decide (1152921504606846976<x)=false:=by simp;omega
 go_enter func98,ntmps98
 go_wp2_with fail
 go_ret
 exact ⟨rfl,rfl⟩
theorem Qbi.push {W w':World}{G:Nat→Prop}{g gc gs n m c c' k:Nat}{A A':Option Addr}{R:List Nat}{C:List Int}{S:List Nat}{o:Obj}(h:Qbi W G g A gc gs n m c R C S)
 (hown:Own w' 0 3 1 A' (m+1) c' (Qag (nis R) ++[.int .i64 (k:Int)])) (hg:(W.alloc o).grownBy w' (Qac A)) (hA:Qac A'=Qac A∨Qac A'=some (W.alloc o).heap.size) :
 Qbi (w'.setCell ⟨g,0,none⟩ (.slice A' (m+1) c')) G g A' gc gs n (m+1) c' (R ++[k]) C S∧Aft G W (w'.setCell ⟨g,0,none⟩ (.slice A' (m+1) c')):=by
 have hbl:Below W.heap.size W (W.alloc o):=(Zr _ _).alloc (Zn _) _;have hz:(W.alloc o).heap.size=W.heap.size+1:=by simp
 have k1:=h.keep hbl
 have hdA:∀ b,Qac A'=some b→b≠g∧b≠gc∧b≠gs∧¬G b:=fun b hb=>by
  rcases hA with e|e
  · exact h.dA b (e.symm.trans hb)
  · rw [hb] at e
    injection e with e
    have l1:=h.blk.lt;have l2:=h.cs.lt;have l3:=h.ss.lt;exact ⟨by omega,by omega,by omega,fun hG=>by have:=h.lt b hG;omega⟩
 have hne:∀ b,(b=g∨b=gc∨b=gs∨G b)→Qac A≠some b:=fun b hb e=>by
  obtain ⟨d1,d2,d3,d4⟩:=h.dA b e
  rcases hb with rfl|rfl|rfl|hb
  · exact d1 rfl
  · exact d2 rfl
  · exact d3 rfl
  · exact d4 hb
 have hb1:Blk w' g 292 #[.slice A m c,.slice (some ⟨gc,0,none⟩) n n,.slice (some ⟨gs,0,none⟩) n n]:=k1.blk.grown hg (hne g (.inl rfl));refine ⟨⟨?_,?_,(k1.cs.grown hg (hne gc (.inr (.inl rfl)))).far_ (fun e=>h.dg.1 e.symm) _,(k1.ss.grown hg (hne gs (.inr (.inr (.inl rfl))))).far_ (fun e=>h.dg.2.1 e.symm) _,hdA,h.dg,h.dG,fun b hb=>?_,by simp [h.lr],h.lc,h.ls,h.n0⟩,?_⟩
 · exact hb1.set_ 0 _
 · have:=hown.far (Qaa w' g 0 (.slice A' (m+1) c')) (.inr fun e=>(hdA g e).1 rfl)
   rw [Qmr,Qbr];exact this
 · have:=h.lt b hb
   have h2:=hg.size;simp only [World.setCell,Array.size_modify];omega
 · refine Aft.set ⟨?_,?_,fun B hB=>?_⟩ h.dG.1 _
   · exact (Qbk.below (G:=G) hbl).trans (Qbk.grown hg (fun b hb=>hne b (.inr (.inr (.inr hb))))) hbl.size
   · have h2:=hg.size
     omega
   · have hBz:B≤W.heap.size:=by
      rcases Nat.lt_or_ge W.heap.size B with hl|hl
      · exact absurd (h.lt _ (hB _ hl)) (by omega)
      · exact hl
     exact (hbl.mono hBz).trans (Below.grown (Zr _ _) hg (by omega) (fun b hb=>by
      rcases Nat.lt_or_ge b B with hl|hl
      · exact absurd hb (hne b (.inr (.inr (.inr (hB b hl)))))
      · exact hl))
set_option maxHeartbeats 2000000 in
theorem Qwx (w:World)(h:Qbi w G g A gc gs n m c R C S)(hp:HpS n R C S) (ho:Ord (at_ R C) m) (k:Nat) (hk:k<n) (hn:k ∉ R) (x:Int) (h0:0≤x) (h1:x≤1152921504606846976) :
 Calls prog 121 #[.pointer (some ⟨g,0,none⟩),.int .i64 k,.int .i64 x] w fun e w'=>e=.returned (.bool true)∧(∃ (A':Option Addr) (c':Nat) (R' S':List Nat),Qbi w' G g A' gc gs n (m+1) c' R' (C.set k x) S'∧HpS n R' (C.set k x) S'∧Ord (at_ R' (C.set k x)) (m+1)∧∀ q,q∈R'↔q∈R∨q=k)∧Aft G w w':=by
 have hlr:=h.lr;have hn0:=h.n0;have hmn:m≤n:=by rw [←h.lr];exact hp.le
 have f0:=h.f0;have f2:=h.f2;have s0:w.cell? ⟨gs,k,none⟩=some (.int .i64 0):=h.seatAt ((hp.out hk).2 hn);have i1:(0:Int)≤(k:Int):=by omega
 have i2:(k:Int)<(n:Int):=by omega
 have HK:=Zh (Qme w h k hk);have HE:=Zh (Qdc w x h0 h1);have hbel:Below w.heap.size w (w.alloc (.cells #[.int .i64 (k:Int)] 3)):=(Zr _ _).alloc (Zn _) _;have hal:=h.keep hbel;have hrow:=hal.row;have g0:=hal.f0;have g2:=hal.f2;have hrd:=(Blk.new w 3 #[.int .i64 (k:Int)]).rds (s:=1) (m:=1) rfl;have HPU:=Zh (hp.put (x:=x) hk hn);have HOU:=Zh (ord_put (x:=x) (by rw [h.lr];exact ho) hn);have HH:=Zh h;have hzz:(w.alloc (.cells #[.int .i64 (k:Int)] 3)).frozen? ⟨g,0,none⟩=false:=hal.blk.frozen 0;clear h hp ho hal
 go_enter func121,ntmps121
 go_wp2_with fail
 with_reducible refine HK.out.mono ?_
 rintro e w' ⟨rfl,rfl⟩
 go_wp2_with fail
 with_reducible refine HE.out.mono ?_
 rintro e w' ⟨rfl,rfl⟩;clear HK HE
 go_wp2_with (at_builtin;with_reducible refine Qap rfl (.tmp 26) (.tmp 28) 67 rfl 3 _ 1 8 Qbb underlying67 rfl (by omega) rfl rfl hrow hrd (hp1_one _) (by omega) (by omega) (by simp) ?_)
 intro A' c' w' hown' hg hA;have hb1:Blk w' g 292 #[.slice A m c,.slice (some ⟨gc,0,none⟩) n n,.slice (some ⟨gs,0,none⟩) n n]:=(HH.out.keep hbel).blk.grown hg (fun e=>(HH.out.dA g e).1 rfl);have k0:w'.cell? ⟨g,0,none⟩=some (.slice A m c):=Zq hb1;have kf:w'.frozen? ⟨g,0,none⟩=false:=hb1.frozen 0;obtain ⟨hh1,ha1⟩:=HH.out.push hown' hg (by simpa using hA);have HH1:=Zh hh1;have HA1:=Zh ha1;clear hb1 hh1 ha1 hown' hg hA hrow hrd hbel g0 g2 hzz HH f0 f2 s0
 go_wp2_with fail
 obtain ⟨W1,hW1⟩:∃ W1,W1=w'.setCell ⟨g,0,none⟩ (.slice A' (m+1) c'):=⟨_,rfl⟩;rw [←hW1] at HH1 HA1;rw [←hW1];clear k0 kf hW1;have f0:=HH1.out.f0;have f2:=HH1.out.f2;have hcap:=HH1.out.cap;have s0:=HH1.out.seatAt (i:=k) (Qbm 0 (by rw [HH1.out.ls];exact hk));have fz:W1.frozen? ⟨gs,k,none⟩=false:=HH1.out.ss.frozen k;have hh2:=(HH1.out.setS (i:=k) (k:=m+1)).drew;have HH2:=Zh hh2;have HA2:=Zh ((HA1.out.set HH1.out.dG.2.2 (i:=k) (.int .i64 ((m+1:Nat):Int))).drew);clear hh2;refine Qbp 11 (S:=fun V=>V.cell? ⟨g,0,none⟩=some (.slice A' (m+1) c')∧V.cell? ⟨g,2,none⟩=some (.slice (some ⟨gs,0,none⟩) n n)) (by kernel_rfl) ⟨f0,f2⟩ (fun _=>?_);refine tkF 0 32 (h:=⟨_,tv,?_⟩);simp only [pE,List.set];refine tkF 1 33 (h:=⟨_,tv,?_⟩);simp only [pE,List.set];refine tkF 2 34 (h:=⟨_,tv,?_⟩);simp only [pE,List.set];refine tkK 3 35 (h:=⟨_,tv,?_⟩);simp only [pE,List.set];refine tkF 4 36 (h:=⟨_,tv,?_⟩);simp only [pE,List.set];refine tkF 5 37 (h:=⟨_,tv,?_⟩);simp only [pE,List.set];refine tkF 6 38 (h:=⟨_,tv,?_⟩);simp only [pE,List.set];refine tkF 7 39 (h:=⟨_,tv,?_⟩);simp only [pE,List.set];refine tkK 8 40 (h:=⟨_,tv,?_⟩);simp only [pE,List.set];refine tkF 9 41 (h:=⟨_,tv,?_⟩);simp only [pE,List.set];refine tkF 10 42 (h:=⟨_,tv,?_⟩);simp only [pE,List.set];refine Qcc (k:=11) (by kernel_rfl) rfl (fun K hK=>?_);go_simp;refine hK.out _ _ ?_;clear hK K;refine Qby (by kernel_rfl) ?_ _;have e2:((m+1:Nat):Int)=(m:Int)+1:=by omega
 rw [e2] at HH2 HA2;have HSK:=Zh (show (S.set k (m+1))[k]?=some (m+1) by rw [List.getElem?_set_self (by have:=HH1.out.ls;omega)])
 rw [hlr] at HPU HOU;clear f0 f2 s0 fz HH1 HA1 e2;obtain ⟨W2,hW2⟩:∃ W2,W2=(W1.setCell ⟨gs,k,none⟩ (.int .i64 ((m:Int)+1))).drew:=⟨_,rfl⟩;rw [←hW2] at HH2 HA2;rw [←hW2];clear hW2;obtain ⟨gr,hgr,hfr⟩:=HH2.out.rowBlk (by omega);subst hgr;have f1:=HH2.out.f1;have q0:=HH2.out.costAt (i:=k) (Qbm 0 (by rw [HH2.out.lc];exact hk));have z1:W2.frozen? ⟨gc,k,none⟩=false:=HH2.out.cs.frozen k;have hh3:=HH2.out.setC (i:=k) (x:=x);have HH3:=Zh hh3;have HA3:=Zh (HA2.out.set HH2.out.dG.2.1 (i:=k) (.int .i64 x));have f2:=hh3.f2;have s2:=hh3.seatAt HSK.out;have e7:IntKind.i64.wrap (((m+1:Nat):Int)-1)=(m:Int):=by rw [show ((m+1:Nat):Int)-1=(m:Int) by omega];exact IntWalk.i64_in _ (by omega)
 have HUP:=Zh (Qxy _ hh3 HPU.out m (by omega) HOU.out);clear hh3
 go_wp2_with fail
 with_reducible refine HUP.out.mono ?_
 rintro e w3 ⟨rfl,R',S',hw3,hp3,ho3,hk3,ha3⟩;have HW4:=Zh hw3;have HA4:=Zh (HA3.out.trans ha3);have HP4:=Zh hp3;have HO4:=Zh ho3;have HK4:=Zh hk3;clear hw3 ha3 hp3 ho3 hk3
 go_wp2_with fail
 go_ret
 exact ⟨rfl,⟨_,_,R',S',HW4.out,HP4.out,HO4.out,fun q=>by rw [HK4.out q];simp⟩,HA4.out⟩
set_option maxHeartbeats 2000000 in
theorem Qul (w:World)(h:Qbi w G g A gc gs n m c R C S)(hp:HpS n R C S)(k i:Nat)(hk:k<n) (hi:R[i]?=some k) (x y:Int) (h0:0≤x) (h1:x≤1152921504606846976) (hy:C[k]?=some y) (hxy:y≤x) :
 Calls prog 121 #[.pointer (some ⟨g,0,none⟩),.int .i64 k,.int .i64 x] w fun e w'=>e=.returned (.bool false)∧w=w':=by
 have hn0:=h.n0;have f2:=h.f2;have f1:=h.f1;have e8:((i+1:Nat):Int)≠0:=by omega
 have s0:w.cell? ⟨gs,k,none⟩=some (.int .i64 ((i+1:Nat):Int)):=h.seatAt (hp.seat i k hi).2;have q0:=h.costAt hy;have i1:(0:Int)≤(k:Int):=by omega
 have i2:(k:Int)<(n:Int):=by omega
 have HK:=Zh (Qme w h k hk);have HE:=Zh (Qdc w x h0 h1);clear h hp
 go_enter func121,ntmps121
 go_wp2_with fail
 with_reducible refine HK.out.mono ?_
 rintro e w' ⟨rfl,rfl⟩
 go_wp2_with fail
 with_reducible refine HE.out.mono ?_
 rintro e w' ⟨rfl,rfl⟩;clear HK HE
 go_wp2_with fail
 go_ret
 exact ⟨rfl,rfl⟩
set_option maxHeartbeats 2000000 in
theorem Qtc (w:World)(h:Qbi w G g A gc gs n m c R C S)(hp:HpS n R C S) (ho:Ord (at_ R C) m) (k i:Nat) (hk:k<n) (hi:R[i]?=some k) (x y:Int) (h0:0≤x) (h1:x≤1152921504606846976) (hy:C[k]?=some y) (hxy:x<y) :
 Calls prog 121 #[.pointer (some ⟨g,0,none⟩),.int .i64 k,.int .i64 x] w fun e w'=>e=.returned (.bool true)∧(∃ (A':Option Addr) (c':Nat) (R' S':List Nat),Qbi w' G g A' gc gs n m c' R' (C.set k x) S'∧HpS n R' (C.set k x) S'∧Ord (at_ R' (C.set k x)) m∧∀ q,q∈R'↔q∈R)∧Aft G w w':=by
 have hlr:=h.lr;have hil:=(Zs hi).1;have hmn:m≤n:=by rw [←h.lr];exact hp.le
 have hat:at_ R C i=y:=by unfold at_;rw [Qce hi];exact Qce hy
 have hn0:=h.n0;have f2:=h.f2;have f1:=h.f1;have e8:((i+1:Nat):Int)≠0:=by omega
 have s0:w.cell? ⟨gs,k,none⟩=some (.int .i64 ((i+1:Nat):Int)):=h.seatAt (hp.seat i k hi).2;have q0:=h.costAt hy;have i1:(0:Int)≤(k:Int):=by omega
 have i2:(k:Int)<(n:Int):=by omega
 have HK:=Zh (Qme w h k hk);have HE:=Zh (Qdc w x h0 h1);have HSK:=Zh (hp.seat i k hi).2;have HPU:=Zh (hp.setC (k:=k) (x:=x));have HOU:=Zh (ord_less (x:=x) hp (by rw [h.lr];exact ho) hi (by omega));have HH2:=Zh h;have HA2:=Zh (Aft.refl G w);have hcap:=h.cap;rw [hlr] at HOU;clear h hp ho;clear f1 f2 s0 q0;have s0:w.cell? ⟨gs,k,none⟩=some (.int .i64 ((i+1:Nat):Int)):=HH2.out.seatAt HSK.out;have g2:=HH2.out.f2;obtain ⟨gr,hgr,hfr⟩:=HH2.out.rowBlk (by omega);subst hgr;have f1:=HH2.out.f1;have q0:=HH2.out.costAt (i:=k) (Qbm 0 (by rw [HH2.out.lc];exact hk));have z1:w.frozen? ⟨gc,k,none⟩=false:=HH2.out.cs.frozen k;have hh3:=HH2.out.setC (i:=k) (x:=x);have HH3:=Zh hh3;have HA3:=Zh (HA2.out.set HH2.out.dG.2.1 (i:=k) (.int .i64 x));have f2:=hh3.f2;have s2:=hh3.seatAt HSK.out;have e7:IntKind.i64.wrap (((i+1:Nat):Int)-1)=(i:Int):=by rw [show ((i+1:Nat):Int)-1=(i:Int) by omega];exact IntWalk.i64_in _ (by omega)
 have HUP:=Zh (Qxy _ hh3 HPU.out i (by omega) HOU.out);clear hh3;have q1:y=C.getD k 0:=(Qce hy).symm;rw [←q1] at q0;clear q1
 go_enter func121,ntmps121
 go_wp2_with fail
 with_reducible refine HK.out.mono ?_
 rintro e w' ⟨rfl,rfl⟩
 go_wp2_with fail
 with_reducible refine HE.out.mono ?_
 rintro e w' ⟨rfl,rfl⟩;clear HK HE
 go_wp2_with fail
 with_reducible refine HUP.out.mono ?_
 rintro e w3 ⟨rfl,R',S',hw3,hp3,ho3,hk3,ha3⟩;have HW4:=Zh hw3;have HA4:=Zh (HA3.out.trans ha3);have HP4:=Zh hp3;have HO4:=Zh ho3;have HK4:=Zh hk3;clear hw3 ha3 hp3 ho3 hk3
 go_wp2_with fail
 go_ret
 exact ⟨rfl,⟨_,_,R',S',HW4.out,HP4.out,HO4.out,HK4.out⟩,HA4.out⟩
theorem Qix (w:World)(hp:Nat→Option Int)(h:Qcn w G g n hp)(k:Nat)(hk:k<n)(x:Int)(h0:0≤x)(h1:x≤1152921504606846976) :
 Calls prog 121 #[.pointer (some ⟨g,0,none⟩),.int .i64 k,.int .i64 x] w fun e w'=>e=.returned (.bool (Qun hp k x))∧Qcn w' G g n (Qif hp k x)∧Aft G w w':=by
 obtain ⟨A,gc,gs,m,c,R,C,S,hw,hs,ho,hin⟩:=h;have hkc:k<C.length:=by rw [hs.lc];exact hk
 cases hv:hp k with
 | none =>
  have hn:k ∉ R:=inAt_out hs ((hin k).symm.trans hv);refine (Qwx w hw hs ho k hk hn x h0 h1).mono ?_;rintro e w' ⟨rfl,⟨A',c',R',S',k1,k2,k3,k4⟩,ha⟩;refine ⟨by simp [Qun,hv],⟨A',gc,gs,m+1,c',R',_,S',k1,k2,k3,fun q=>?_⟩,ha⟩;rw [Qrk hkc k4];unfold Qif
  by_cases e:q=k
  · rw [if_pos e,if_pos e,hv]
  · rw [if_neg e,if_neg e];exact hin q
 | some y =>
  obtain ⟨hm,hy⟩:=Qve ((hin k).symm.trans hv);obtain ⟨i,hi,_,_,_⟩:=hs.in_ hm
  by_cases hxy:y≤x
  · refine (Qul w hw hs k i hk hi x y h0 h1 hy hxy).mono ?_
    rintro e w' ⟨rfl,rfl⟩;refine ⟨by simp [Qun,hv,hxy],⟨A,gc,gs,m,c,R,C,S,hw,hs,ho,fun q=>?_⟩,Aft.refl _ _⟩;unfold Qif
    by_cases e:q=k
    · rw [if_pos e,hv,e,←hin k,hv]
      simp [hxy]
    · rw [if_neg e];exact hin q
  · refine (Qtc w hw hs ho k i hk hi x y h0 h1 hy (by omega)).mono ?_
    rintro e w' ⟨rfl,⟨A',c',R',S',k1,k2,k3,k4⟩,ha⟩;refine ⟨by simp [Qun,hv];omega,⟨A',gc,gs,m,c',R',_,S',k1,k2,k3,fun q=>?_⟩,ha⟩;rw [Qrk hkc (r:=R) (fun q=>by rw [k4 q];exact ⟨.inl,fun h=>h.elim id (fun e=>e▸hm)⟩)];unfold Qif
    by_cases e:q=k
    · rw [if_pos e,if_pos e,hv];simp [hxy]
    · rw [if_neg e,if_neg e];exact hin q
end
set_option maxHeartbeats 1000000 in
theorem Qxg (A:Option Addr)(n c:Nat)(t:Qfh)(i o:Nat)(w:World)(h:RdI w A n t.costs)(ht:Qng t) (hi:(i:Int)<t.ins) (ho:(o:Int)<t.outs) :
 Calls prog 135 #[.agg #[.int .i64 t.ins,.int .i64 t.outs,.slice A n c],.int .i64 i,.int .i64 o] w fun e w'=>∃ x,t.costs[i*t.outs.toNat+o]?=some x∧e=.returned (.int .i64 x)∧Below w.heap.size w w':=by
 obtain ⟨p,q,cs⟩:=t;simp only at h hi ho ⊢;have i0:0≤p:=ht.i0;have i16:p≤16:=ht.i16;have o0:0≤q:=ht.o0;have o16:q≤16:=ht.o16;have hm:=Qox i0 i16 o0 o16;have hl:(cs.length:Int)=p*q:=ht.len
 have hk:(i:Int)*q+o<p*q:=by
  have h1:((i:Int)+1)*q≤p*q:=Int.mul_le_mul_of_nonneg_right (by omega) o0;rw [Int.add_mul,Int.one_mul] at h1;omega
 have hk0:0≤(i:Int)*q:=Int.mul_nonneg (by omega) o0;obtain ⟨k,hkk⟩:∃ k:Nat,(k:Int)=(i:Int)*q+o:=⟨((i:Int)*q+o).toNat,by omega⟩
 have hke:i*q.toNat+o=k:=by
  have:((i*q.toNat+o:Nat):Int)=(k:Int):=by
   rw [hkk]
   push_cast
   rw [Int.toNat_of_nonneg o0]
  exact_mod_cast this
 rw [hke];have hkl:k<n:=by rw [←h.1];omega
 obtain ⟨b,oo,x,hA,hx,hc⟩:=h.at_ hkl;subst hA;have hn:n≤256:=by rw [←h.1];omega
 have HSD:=Zh (fun V=>Qsi p q V i0 i16 o0 o16);have e1:IntKind.i64.wrap ((i:Int)*q)=(i:Int)*q:=IntWalk.i64_in _ (by omega);have e2:IntKind.i64.wrap ((i:Int)*q+o)=(k:Int):=by rw [←hkk];exact IntWalk.i64_in _ (by omega)
 have i1:((k:Int))<(n:Int):=by omega
 have HX:=Zh hx;have g1:decide ((i:Int)<0)=false:=by simp
 have g2:decide (p≤(i:Int))=false:=by simp;omega
 have g3:decide ((o:Int)<0)=false:=by simp
 have g4:decide (q≤(o:Int))=false:=by simp;omega
 clear h ht hl hk hkk hke hx hm hk0
 go_enter func135,ntmps135
 have hcA:∀ ob,(w.alloc ob).cell? ⟨b,oo+k,none⟩=some (.int .i64 x):=fun ob=>Zc ((Zr _ w).alloc (Zn _) ob) (Zn _) hc
 go_wp2_with fail
 with_reducible refine (HSD.out _).mono ?_
 rintro e w' ⟨rfl,rfl⟩
 go_wp2_with fail
 go_ret
 exact ⟨x,HX.out,rfl,Qah⟩
theorem gVert_ok (g v:Nat)(N:Qaq)(w:World)(h:Qeo w g N)(hv:v<N.vs.length):Calls prog 212 #[.pointer (some ⟨g,0,none⟩),.int .i64 v] w fun e w'=>e=.returned (.bool true)∧w=w':=by
 obtain ⟨A,B,C,I,O,P,n,m,k,c,d,e,ci,co,cp,h⟩:=h;have hn0:=h.n0;have hnn:N.vs.length=n:=h.net.1.1;have hlv:=h.ok.lv;have i1:(0:Int)≤(v:Int):=by omega
 have i2:(v:Int)<(n:Int):=by omega
 clear h
 go_enter func212,ntmps212
 go_wp2
 go_ret
 exact ⟨rfl,rfl⟩
theorem Qsc (g v:Nat)(N:Qaq)(w:World)(h:Qeo w g N)(hv:v<N.vs.length):Calls prog 177 #[.pointer (some ⟨g,0,none⟩),.int .i64 v] w fun e w'=>∃ A n c,e=.returned (.slice A n c)∧Own w' w.heap.size 3 1 A n c (Qag (idx (·.1) N.ar (v:Int)))∧Below w.heap.size w w':=by
 obtain ⟨A,B,C,I,O,P,n,m,k,c,d,e,ci,co,cp,h⟩:=h;have hn1:=h.n0;have hn4:=h.n4;have hlv:=h.ok.lv;have hnn:N.vs.length=n:=h.net.1.1;obtain ⟨b,o,A',n',c',l,hO,hl,h1,h2,h3,h4⟩:=h.outs.at_ (i:=v) (by omega);rw [Qga (by omega)] at hl
 cases hl
 subst hO
 have hn':n'≤16384:=by
  rw [←h2.1];have:=Qgt (·.1) N.ar N.ar.length (v:Int);rw [List.take_length] at this;have:=h.ok.la;omega
 have HC:=Zh (Qll A' n' c' _ w h2.rds (Qak _) (by omega));have HV:=Zh (gVert_ok g v N w ⟨_,_,_,_,_,_,_,_,_,_,_,_,_,_,_,h⟩ hv);have i1:(0:Int)≤(v:Int):=by omega
 have i2:(v:Int)<(n:Int):=by omega
 clear h h2
 go_enter func177,ntmps177
 go_wp2_with fail
 with_reducible refine HV.out.mono ?_
 rintro e w' ⟨rfl,rfl⟩
 go_wp2_with fail
 with_reducible refine HC.out.mono ?_
 rintro e w' ⟨A2,c2,rfl,ho,hb⟩;have HO:=Zh ho;have HB:=Zh hb;clear ho hb
 go_wp2_with fail
 go_ret
 exact ⟨_,_,_,rfl,HO.out,HB.out⟩
end Go.Proofs.YteaoiabikjnkeaaGreatDoor
