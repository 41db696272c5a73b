/- Parts of the proof: Hz, Gb, Gt, Hv. -/
import Derived.Test.YthoagdpakddbdaaGreatDoorK1
import Derived.Test.YthoagdpakddbdaaGreatDoorK5
import Derived.Test.YthoagdpakddbdaaGreatDoorK6
namespace Go.Proofs.YthoagdpakddbdaaGreatDoor
open Go.RowKit Go.Proofs.Tryz
attribute [local go_sem ↓] Go.wp_at_zero Go.wp_at_succ
theorem hp1_one (x:Int):∀ u∈[Value.int .i64 x],u.oneCell'=true:=Qak [x]
section
variable {G:Nat→Prop} {g gc gs n m c:Nat} {A:Option Addr} {R:List Nat} {C:List Int} {S:List Nat}
def Qda (W:World)(G:Nat→Prop)(g n:Nat)(hp:Nat→Option Int):Prop :=
 ∃ (A:Option Addr) (gc gs m c:Nat) (R:List Nat) (C:List Int) (S:List Nat),Qav W G g A gc gs n m c R C S∧HpS n R C S∧Ord (at_ R C) m∧∀ k,hp k=Qqe R C k
theorem Qmi (w:World)(h:Qav w G g A gc gs n m c R C S)(k:Nat)(hk:k<n) :
 Calls prog 158 #[.pointer (some ⟨g,0,none⟩),.int .i64 k] w fun e w'=>e=.returned (.bool true)∧w=w':=by
 have f2:=h.f2;have i1:(0:Int)≤(k:Int):=by omega
 have i2:(k:Int)<(n:Int):=by omega
 clear h
 go_enter func158,ntmps158
 go_wp2_with fail
 go_ret
 exact ⟨rfl,rfl⟩
theorem Qgj (w:World)(x:Int)(h0:0≤x)(h1:x≤1152921504606846976) :
 Calls prog 159 #[.int .i64 x] w fun e w'=>e=.returned (.int .i64 x)∧w=w':=by
 have e1:decide (x<0)=false:=by simp;omega
 have e2:decide (1152921504606846976<x)=false:=by simp;omega
 go_enter func159,ntmps159
 go_wp2_with fail
 go_ret
 exact ⟨rfl,rfl⟩
theorem Qav.push {W w':World}{G:Nat→Prop}{g gc gs n m c c' k:Nat}{A A':Option Addr}{R:List Nat}{C:List Int}{S:List Nat}{o:Obj}(h:Qav W G g A gc gs n m c R C S)
 (hown:Own w' 0 3 1 A' (m+1) c' (Qad (nis R) ++[.int .i64 (k:Int)])) (hg:(W.alloc o).grownBy w' (Qab A)) (hA:Qab A'=Qab A∨Qab A'=some (W.alloc o).heap.size) :
 Qav (w'.setCell ⟨g,0,none⟩ (.slice A' (m+1) c')) G g A' gc gs n (m+1) c' (R ++[k]) C S∧Aft G W (w'.setCell ⟨g,0,none⟩ (.slice A' (m+1) c')):=by
 have hbl:Below W.heap.size W (W.alloc o):=(Zr _ _).alloc (Zn _) _;have hz:(W.alloc o).heap.size=W.heap.size+1:=by simp
 have k1:=h.keep hbl
 have hdA:∀ b,Qab A'=some b→b≠g∧b≠gc∧b≠gs∧¬G b:=fun b hb=>by
  rcases hA with e|e
  · exact h.dA b (e.symm.trans hb)
  · rw [hb] at e
    injection e with e
    have l1:=h.blk.lt;have l2:=h.cs.lt;have l3:=h.ss.lt;exact ⟨by omega,by omega,by omega,fun hG=>by have:=h.lt b hG;omega⟩
 have hne:∀ b,(b=g∨b=gc∨b=gs∨G b)→Qab A≠some b:=fun b hb e=>by
  obtain ⟨d1,d2,d3,d4⟩:=h.dA b e
  rcases hb with rfl|rfl|rfl|hb
  · exact d1 rfl
  · exact d2 rfl
  · exact d3 rfl
  · exact d4 hb
 have hb1:Blk w' g 269 #[.slice A m c,.slice (some ⟨gc,0,none⟩) n n,.slice (some ⟨gs,0,none⟩) n n]:=k1.blk.grown hg (hne g (.inl rfl));refine ⟨⟨?_,?_,(k1.cs.grown hg (hne gc (.inr (.inl rfl)))).far_ (fun e=>h.dg.1 e.symm) _,(k1.ss.grown hg (hne gs (.inr (.inr (.inl rfl))))).far_ (fun e=>h.dg.2.1 e.symm) _,hdA,h.dg,h.dG,fun b hb=>?_,by simp [h.lr],h.lc,h.ls,h.n0⟩,?_⟩
 · exact hb1.set_ 0 _
 · have:=hown.far (Qaa w' g 0 (.slice A' (m+1) c')) (.inr fun e=>(hdA g e).1 rfl)
   rw [Qmc,Qbz];exact this
 · have:=h.lt b hb
   have h2:=hg.size;simp only [World.setCell,Array.size_modify];omega
 · refine Aft.set ⟨?_,?_,fun B hB=>?_⟩ h.dG.1 _
   · exact (Qaz.below (G:=G) hbl).trans (Qaz.grown hg (fun b hb=>hne b (.inr (.inr (.inr hb))))) hbl.size
   · have h2:=hg.size
     omega
   · have hBz:B≤W.heap.size:=by
      rcases Nat.lt_or_ge W.heap.size B with hl|hl
      · exact absurd (h.lt _ (hB _ hl)) (by omega)
      · exact hl
     exact (hbl.mono hBz).trans (Below.grown (Zr _ _) hg (by omega) (fun b hb=>by
      rcases Nat.lt_or_ge b B with hl|hl
      · exact absurd hb (hne b (.inr (.inr (.inr (hB b hl)))))
      · exact hl))
set_option maxHeartbeats 2000000 in
theorem Qwn (w:World)(h:Qav w G g A gc gs n m c R C S)(hp:HpS n R C S) (ho:Ord (at_ R C) m) (k:Nat) (hk:k<n) (hn:k ∉ R) (x:Int) (h0:0≤x) (h1:x≤1152921504606846976) :
 Calls prog 135 #[.pointer (some ⟨g,0,none⟩),.int .i64 k,.int .i64 x] w fun e w'=>e=.returned (.bool true)∧(∃ (A':Option Addr) (c':Nat) (R' S':List Nat),Qav w' G g A' gc gs n (m+1) c' R' (C.set k x) S'∧HpS n R' (C.set k x) S'∧Ord (at_ R' (C.set k x)) (m+1)∧∀ q,q∈R'↔q∈R∨q=k)∧Aft G w w':=by
 have hlr:=h.lr;have hn0:=h.n0;have hmn:m≤n:=by rw [←h.lr];exact hp.le
 have f0:=h.f0;have f2:=h.f2;have s0:w.cell? ⟨gs,k,none⟩=some (.int .i64 0):=h.seatAt ((hp.out hk).2 hn);have i1:(0:Int)≤(k:Int):=by omega
 have i2:(k:Int)<(n:Int):=by omega
 have HK:=Zh (Qmi w h k hk);have HE:=Zh (Qgj w x h0 h1);have hbel:Below w.heap.size w (w.alloc (.cells #[.int .i64 (k:Int)] 3)):=(Zr _ _).alloc (Zn _) _;have hal:=h.keep hbel;have hrow:=hal.row;have g0:=hal.f0;have g2:=hal.f2;have hrd:=(Blk.new w 3 #[.int .i64 (k:Int)]).rds (s:=1) (m:=1) rfl;have HPU:=Zh (hp.put (x:=x) hk hn);have HOU:=Zh (ord_put (x:=x) (by rw [h.lr];exact ho) hn);have HH:=Zh h;have hzz:(w.alloc (.cells #[.int .i64 (k:Int)] 3)).frozen? ⟨g,0,none⟩=false:=hal.blk.frozen 0;clear h hp ho hal
 go_enter func135,ntmps135
 go_wp2_with fail
 with_reducible refine HK.out.mono ?_
 rintro e w' ⟨rfl,rfl⟩
 go_wp2_with fail
 with_reducible refine HE.out.mono ?_
 rintro e w' ⟨rfl,rfl⟩;clear HK HE
 go_wp2_with (at_builtin;with_reducible refine Qat rfl (.tmp 26) (.tmp 28) 93 rfl 3 _ 1 8 Qay underlying93 rfl (by omega) rfl rfl hrow hrd (hp1_one _) (by omega) (by omega) (by simp) ?_)
 intro A' c' w' hown' hg hA;have hb1:Blk w' g 269 #[.slice A m c,.slice (some ⟨gc,0,none⟩) n n,.slice (some ⟨gs,0,none⟩) n n]:=(HH.out.keep hbel).blk.grown hg (fun e=>(HH.out.dA g e).1 rfl);have k0:w'.cell? ⟨g,0,none⟩=some (.slice A m c):=Zq hb1;have kf:w'.frozen? ⟨g,0,none⟩=false:=hb1.frozen 0;obtain ⟨hh1,ha1⟩:=HH.out.push hown' hg (by simpa using hA);have HH1:=Zh hh1;have HA1:=Zh ha1;clear hb1 hh1 ha1 hown' hg hA hrow hrd hbel g0 g2 hzz HH f0 f2 s0
 go_wp2_with fail
 obtain ⟨W1,hW1⟩:∃ W1,W1=w'.setCell ⟨g,0,none⟩ (.slice A' (m+1) c'):=⟨_,rfl⟩;rw [←hW1] at HH1 HA1;rw [←hW1];clear k0 kf hW1;have f0:=HH1.out.f0;have f2:=HH1.out.f2;have hcap:=HH1.out.cap;have s0:=HH1.out.seatAt (i:=k) (Qbd 0 (by rw [HH1.out.ls];exact hk));have fz:W1.frozen? ⟨gs,k,none⟩=false:=HH1.out.ss.frozen k;have hh2:=(HH1.out.setS (i:=k) (k:=m+1)).drew;have HH2:=Zh hh2;have HA2:=Zh ((HA1.out.set HH1.out.dG.2.2 (i:=k) (.int .i64 ((m+1:Nat):Int))).drew);clear hh2;refine Qbp 11 (S:=fun V=>V.cell? ⟨g,0,none⟩=some (.slice A' (m+1) c')∧V.cell? ⟨g,2,none⟩=some (.slice (some ⟨gs,0,none⟩) n n)) (by kernel_rfl) ⟨f0,f2⟩ (fun _=>?_);refine tkF 0 32 (h:=⟨_,tv,?_⟩);simp only [pE,List.set];refine tkF 1 33 (h:=⟨_,tv,?_⟩);simp only [pE,List.set];refine tkF 2 34 (h:=⟨_,tv,?_⟩);simp only [pE,List.set];refine tkK 3 35 (h:=⟨_,tv,?_⟩);simp only [pE,List.set];refine tkF 4 36 (h:=⟨_,tv,?_⟩);simp only [pE,List.set];refine tkF 5 37 (h:=⟨_,tv,?_⟩);simp only [pE,List.set];refine tkF 6 38 (h:=⟨_,tv,?_⟩);simp only [pE,List.set];refine tkF 7 39 (h:=⟨_,tv,?_⟩);simp only [pE,List.set];refine tkK 8 40 (h:=⟨_,tv,?_⟩);simp only [pE,List.set];refine tkF 9 41 (h:=⟨_,tv,?_⟩);simp only [pE,List.set];refine tkF 10 42 (h:=⟨_,tv,?_⟩);simp only [pE,List.set];refine Qci (k:=11) (by kernel_rfl) rfl (fun K hK=>?_);go_simp;refine hK.out _ _ ?_;clear hK K;refine Qch (by kernel_rfl) ?_ _;have e2:((m+1:Nat):Int)=(m:Int)+1:=by omega
 rw [e2] at HH2 HA2;have HSK:=Zh (show (S.set k (m+1))[k]?=some (m+1) by rw [List.getElem?_set_self (by have:=HH1.out.ls;omega)])
 rw [hlr] at HPU HOU;clear f0 f2 s0 fz HH1 HA1 e2;obtain ⟨W2,hW2⟩:∃ W2,W2=(W1.setCell ⟨gs,k,none⟩ (.int .i64 ((m:Int)+1))).drew:=⟨_,rfl⟩;rw [←hW2] at HH2 HA2;rw [←hW2];clear hW2;obtain ⟨gr,hgr,hfr⟩:=HH2.out.rowBlk (by omega);subst hgr;have f1:=HH2.out.f1;have q0:=HH2.out.costAt (i:=k) (Qbd 0 (by rw [HH2.out.lc];exact hk));have z1:W2.frozen? ⟨gc,k,none⟩=false:=HH2.out.cs.frozen k;have hh3:=HH2.out.setC (i:=k) (x:=x);have HH3:=Zh hh3;have HA3:=Zh (HA2.out.set HH2.out.dG.2.1 (i:=k) (.int .i64 x));have f2:=hh3.f2;have s2:=hh3.seatAt HSK.out;have e7:IntKind.i64.wrap (((m+1:Nat):Int)-1)=(m:Int):=by rw [show ((m+1:Nat):Int)-1=(m:Int) by omega];exact IntWalk.i64_in _ (by omega)
 have HUP:=Zh (Qua _ hh3 HPU.out m (by omega) HOU.out);clear hh3
 go_wp2_with fail
 with_reducible refine HUP.out.mono ?_
 rintro e w3 ⟨rfl,R',S',hw3,hp3,ho3,hk3,ha3⟩;have HW4:=Zh hw3;have HA4:=Zh (HA3.out.trans ha3);have HP4:=Zh hp3;have HO4:=Zh ho3;have HK4:=Zh hk3;clear hw3 ha3 hp3 ho3 hk3
 go_wp2_with fail
 go_ret
 exact ⟨rfl,⟨_,_,R',S',HW4.out,HP4.out,HO4.out,fun q=>by rw [HK4.out q];simp⟩,HA4.out⟩
set_option maxHeartbeats 2000000 in
theorem Qtj (w:World)(h:Qav w G g A gc gs n m c R C S)(hp:HpS n R C S)(k i:Nat)(hk:k<n) (hi:R[i]?=some k) (x y:Int) (h0:0≤x) (h1:x≤1152921504606846976) (hy:C[k]?=some y) (hxy:y≤x) :
 Calls prog 135 #[.pointer (some ⟨g,0,none⟩),.int .i64 k,.int .i64 x] w fun e w'=>e=.returned (.bool false)∧w=w':=by
 have hn0:=h.n0;have f2:=h.f2;have f1:=h.f1;have e8:((i+1:Nat):Int)≠0:=by omega
 have s0:w.cell? ⟨gs,k,none⟩=some (.int .i64 ((i+1:Nat):Int)):=h.seatAt (hp.seat i k hi).2;have q0:=h.costAt hy;have i1:(0:Int)≤(k:Int):=by omega
 have i2:(k:Int)<(n:Int):=by omega
 have HK:=Zh (Qmi w h k hk);have HE:=Zh (Qgj w x h0 h1);clear h hp
 go_enter func135,ntmps135
 go_wp2_with fail
 with_reducible refine HK.out.mono ?_
 rintro e w' ⟨rfl,rfl⟩
 go_wp2_with fail
 with_reducible refine HE.out.mono ?_
 rintro e w' ⟨rfl,rfl⟩;clear HK HE
 go_wp2_with fail
 go_ret
 exact ⟨rfl,rfl⟩
set_option maxHeartbeats 2000000 in
theorem Qru (w:World)(h:Qav w G g A gc gs n m c R C S)(hp:HpS n R C S) (ho:Ord (at_ R C) m) (k i:Nat) (hk:k<n) (hi:R[i]?=some k) (x y:Int) (h0:0≤x) (h1:x≤1152921504606846976) (hy:C[k]?=some y) (hxy:x<y) :
 Calls prog 135 #[.pointer (some ⟨g,0,none⟩),.int .i64 k,.int .i64 x] w fun e w'=>e=.returned (.bool true)∧(∃ (A':Option Addr) (c':Nat) (R' S':List Nat),Qav w' G g A' gc gs n m c' R' (C.set k x) S'∧HpS n R' (C.set k x) S'∧Ord (at_ R' (C.set k x)) m∧∀ q,q∈R'↔q∈R)∧Aft G w w':=by
 have hlr:=h.lr;have hil:=(Zs hi).1;have hmn:m≤n:=by rw [←h.lr];exact hp.le
 have hat:at_ R C i=y:=by unfold at_;rw [Qbu hi];exact Qbu hy
 have hn0:=h.n0;have f2:=h.f2;have f1:=h.f1;have e8:((i+1:Nat):Int)≠0:=by omega
 have s0:w.cell? ⟨gs,k,none⟩=some (.int .i64 ((i+1:Nat):Int)):=h.seatAt (hp.seat i k hi).2;have q0:=h.costAt hy;have i1:(0:Int)≤(k:Int):=by omega
 have i2:(k:Int)<(n:Int):=by omega
 have HK:=Zh (Qmi w h k hk);have HE:=Zh (Qgj w x h0 h1);have HSK:=Zh (hp.seat i k hi).2;have HPU:=Zh (hp.setC (k:=k) (x:=x));have HOU:=Zh (ord_less (x:=x) hp (by rw [h.lr];exact ho) hi (by omega));have HH2:=Zh h;have HA2:=Zh (Aft.refl G w);have hcap:=h.cap;rw [hlr] at HOU;clear h hp ho;clear f1 f2 s0 q0;have s0:w.cell? ⟨gs,k,none⟩=some (.int .i64 ((i+1:Nat):Int)):=HH2.out.seatAt HSK.out;have g2:=HH2.out.f2;obtain ⟨gr,hgr,hfr⟩:=HH2.out.rowBlk (by omega);subst hgr;have f1:=HH2.out.f1;have q0:=HH2.out.costAt (i:=k) (Qbd 0 (by rw [HH2.out.lc];exact hk));have z1:w.frozen? ⟨gc,k,none⟩=false:=HH2.out.cs.frozen k;have hh3:=HH2.out.setC (i:=k) (x:=x);have HH3:=Zh hh3;have HA3:=Zh (HA2.out.set HH2.out.dG.2.1 (i:=k) (.int .i64 x));have f2:=hh3.f2;have s2:=hh3.seatAt HSK.out;have e7:IntKind.i64.wrap (((i+1:Nat):Int)-1)=(i:Int):=by rw [show ((i+1:Nat):Int)-1=(i:Int) by omega];exact IntWalk.i64_in _ (by omega)
 have HUP:=Zh (Qua _ hh3 HPU.out i (by omega) HOU.out);clear hh3;have q1:y=C.getD k 0:=(Qbu hy).symm;rw [←q1] at q0;clear q1
 go_enter func135,ntmps135
 go_wp2_with fail
 with_reducible refine HK.out.mono ?_
 rintro e w' ⟨rfl,rfl⟩
 go_wp2_with fail
 with_reducible refine HE.out.mono ?_
 rintro e w' ⟨rfl,rfl⟩;clear HK HE
 go_wp2_with fail
 with_reducible refine HUP.out.mono ?_
 rintro e w3 ⟨rfl,R',S',hw3,hp3,ho3,hk3,ha3⟩;have HW4:=Zh hw3;have HA4:=Zh (HA3.out.trans ha3);have HP4:=Zh hp3;have HO4:=Zh ho3;have HK4:=Zh hk3;clear hw3 ha3 hp3 ho3 hk3
 go_wp2_with fail
 go_ret
 exact ⟨rfl,⟨_,_,R',S',HW4.out,HP4.out,HO4.out,HK4.out⟩,HA4.out⟩
theorem Qqo (w:World)(hp:Nat→Option Int)(h:Qda w G g n hp)(k:Nat)(hk:k<n)(x:Int)(h0:0≤x)(h1:x≤1152921504606846976) :
 Calls prog 135 #[.pointer (some ⟨g,0,none⟩),.int .i64 k,.int .i64 x] w fun e w'=>e=.returned (.bool (putB hp k x))∧Qda w' G g n (Qtb hp k x)∧Aft G w w':=by
 obtain ⟨A,gc,gs,m,c,R,C,S,hw,hs,ho,hin⟩:=h;have hkc:k<C.length:=by rw [hs.lc];exact hk
 cases hv:hp k with
 | none =>
  have hn:k ∉ R:=inAt_out hs ((hin k).symm.trans hv);refine (Qwn w hw hs ho k hk hn x h0 h1).mono ?_;rintro e w' ⟨rfl,⟨A',c',R',S',k1,k2,k3,k4⟩,ha⟩;refine ⟨by simp [putB,hv],⟨A',gc,gs,m+1,c',R',_,S',k1,k2,k3,fun q=>?_⟩,ha⟩;rw [Qri hkc k4];unfold Qtb
  by_cases e:q=k
  · rw [if_pos e,if_pos e,hv]
  · rw [if_neg e,if_neg e];exact hin q
 | some y =>
  obtain ⟨hm,hy⟩:=Qvm ((hin k).symm.trans hv);obtain ⟨i,hi,_,_,_⟩:=hs.in_ hm
  by_cases hxy:y≤x
  · refine (Qtj w hw hs k i hk hi x y h0 h1 hy hxy).mono ?_
    rintro e w' ⟨rfl,rfl⟩;refine ⟨by simp [putB,hv,hxy],⟨A,gc,gs,m,c,R,C,S,hw,hs,ho,fun q=>?_⟩,Aft.refl _ _⟩;unfold Qtb
    by_cases e:q=k
    · rw [if_pos e,hv,e,←hin k,hv]
      simp [hxy]
    · rw [if_neg e];exact hin q
  · refine (Qru w hw hs ho k i hk hi x y h0 h1 hy (by omega)).mono ?_
    rintro e w' ⟨rfl,⟨A',c',R',S',k1,k2,k3,k4⟩,ha⟩;refine ⟨by simp [putB,hv];omega,⟨A',gc,gs,m,c',R',_,S',k1,k2,k3,fun q=>?_⟩,ha⟩;rw [Qri hkc (r:=R) (fun q=>by rw [k4 q];exact ⟨.inl,fun h=>h.elim id (fun e=>e▸hm)⟩)];unfold Qtb
    by_cases e:q=k
    · rw [if_pos e,if_pos e,hv];simp [hxy]
    · rw [if_neg e,if_neg e];exact hin q
end
set_option maxHeartbeats 1000000 in
theorem Qop (A:Option Addr)(n c:Nat)(t:Qbw)(i o:Nat)(w:World)(h:RdI w A n t.costs)(ht:Qig t) (hi:(i:Int)<t.ins) (ho:(o:Int)<t.outs) :
 Calls prog 68 #[.agg #[.int .i64 t.ins,.int .i64 t.outs,.slice A n c],.int .i64 i,.int .i64 o] w fun e w'=>∃ x,t.costs[i*t.outs.toNat+o]?=some x∧e=.returned (.int .i64 x)∧Below w.heap.size w w':=by
 obtain ⟨p,q,cs⟩:=t;simp only at h hi ho ⊢;have i0:0≤p:=ht.i0;have i16:p≤16:=ht.i16;have o0:0≤q:=ht.o0;have o16:q≤16:=ht.o16;have hm:=Qnp i0 i16 o0 o16;have hl:(cs.length:Int)=p*q:=ht.len
 have hk:(i:Int)*q+o<p*q:=by
  have h1:((i:Int)+1)*q≤p*q:=Int.mul_le_mul_of_nonneg_right (by omega) o0;rw [Int.add_mul,Int.one_mul] at h1;omega
 have hk0:0≤(i:Int)*q:=Int.mul_nonneg (by omega) o0;obtain ⟨k,hkk⟩:∃ k:Nat,(k:Int)=(i:Int)*q+o:=⟨((i:Int)*q+o).toNat,by omega⟩
 have hke:i*q.toNat+o=k:=by
  have:((i*q.toNat+o:Nat):Int)=(k:Int):=by
   rw [hkk]
   push_cast
   rw [Int.toNat_of_nonneg o0]
  exact_mod_cast this
 rw [hke];have hkl:k<n:=by rw [←h.1];omega
 obtain ⟨b,oo,x,hA,hx,hc⟩:=h.at_ hkl;subst hA;have hn:n≤256:=by rw [←h.1];omega
 have HSD:=Zh (fun V=>Qrm p q V i0 i16 o0 o16);have e1:IntKind.i64.wrap ((i:Int)*q)=(i:Int)*q:=IntWalk.i64_in _ (by omega);have e2:IntKind.i64.wrap ((i:Int)*q+o)=(k:Int):=by rw [←hkk];exact IntWalk.i64_in _ (by omega)
 have i1:((k:Int))<(n:Int):=by omega
 have HX:=Zh hx;have g1:decide ((i:Int)<0)=false:=by simp
 have g2:decide (p≤(i:Int))=false:=by simp;omega
 have g3:decide ((o:Int)<0)=false:=by simp
 have g4:decide (q≤(o:Int))=false:=by simp;omega
 clear h ht hl hk hkk hke hx hm hk0
 go_enter func68,ntmps68
 have hcA:∀ ob,(w.alloc ob).cell? ⟨b,oo+k,none⟩=some (.int .i64 x):=fun ob=>Zc ((Zr _ w).alloc (Zn _) ob) (Zn _) hc
 go_wp2_with fail
 with_reducible refine (HSD.out _).mono ?_
 rintro e w' ⟨rfl,rfl⟩
 go_wp2_with fail
 go_ret
 exact ⟨x,HX.out,rfl,Qae⟩
theorem gVert_ok (g v:Nat)(N:Qaj)(w:World)(h:Qgk w g N)(hv:v<N.vs.length):Calls prog 156 #[.pointer (some ⟨g,0,none⟩),.int .i64 v] w fun e w'=>e=.returned (.bool true)∧w=w':=by
 obtain ⟨A,B,C,I,O,P,n,m,k,c,d,e,ci,co,cp,h⟩:=h;have hn0:=h.n0;have hnn:N.vs.length=n:=h.net.1.1;have hlv:=h.ok.lv;have i1:(0:Int)≤(v:Int):=by omega
 have i2:(v:Int)<(n:Int):=by omega
 clear h
 go_enter func156,ntmps156
 go_wp2
 go_ret
 exact ⟨rfl,rfl⟩
theorem gOuts_ok (g v:Nat)(N:Qaj)(w:World)(h:Qgk w g N)(hv:v<N.vs.length):Calls prog 129 #[.pointer (some ⟨g,0,none⟩),.int .i64 v] w fun e w'=>∃ A n c,e=.returned (.slice A n c)∧Own w' w.heap.size 3 1 A n c (Qad (idx (·.1) N.ar (v:Int)))∧Below w.heap.size w w':=by
 obtain ⟨A,B,C,I,O,P,n,m,k,c,d,e,ci,co,cp,h⟩:=h;have hn1:=h.n0;have hn4:=h.n4;have hlv:=h.ok.lv;have hnn:N.vs.length=n:=h.net.1.1;obtain ⟨b,o,A',n',c',l,hO,hl,h1,h2,h3,h4⟩:=h.outs.at_ (i:=v) (by omega);rw [Qfk (by omega)] at hl
 cases hl
 subst hO
 have hn':n'≤16384:=by
  rw [←h2.1];have:=Qqs (·.1) N.ar N.ar.length (v:Int);rw [List.take_length] at this;have:=h.ok.la;omega
 have HC:=Zh (Qla A' n' c' _ w h2.rds (Qak _) (by omega));have HV:=Zh (gVert_ok g v N w ⟨_,_,_,_,_,_,_,_,_,_,_,_,_,_,_,h⟩ hv);have i1:(0:Int)≤(v:Int):=by omega
 have i2:(v:Int)<(n:Int):=by omega
 clear h h2
 go_enter func129,ntmps129
 go_wp2_with fail
 with_reducible refine HV.out.mono ?_
 rintro e w' ⟨rfl,rfl⟩
 go_wp2_with fail
 with_reducible refine HC.out.mono ?_
 rintro e w' ⟨A2,c2,rfl,ho,hb⟩;have HO:=Zh ho;have HB:=Zh hb;clear ho hb
 go_wp2_with fail
 go_ret
 exact ⟨_,_,_,rfl,HO.out,HB.out⟩
def Qaw (N:Qaj)(a b:Nat):Int :=
 match N.ar[a]?,N.ar[b]? with
 | some x,some y=>if x.2.1=y.1 then (match N.vs[x.2.1.toNat]? with
  | some v=>(match N.ts[v.2.2.toNat]? with
   | some t=>t.costs.getD ((Qew N.ar a x).1.toNat*t.outs.toNat+(Qew N.ar b y).2.toNat) 1152921504606846976
   | none=>1152921504606846976)
  | none=>1152921504606846976) else 1152921504606846976
 | _,_=>1152921504606846976
theorem Qqw {f:Tri→Int}{l:List Tri}{k:Nat}{a:Tri}{v:Int} (h:l[k]?=some a) (hv:f a=v):(idx f (l.take k) v).length<l.countP (fun x=>f x == v):=by
 rw [Qln]
 have h1:(l.take (k+1)).countP (fun x=>f x == v)=(l.take k).countP (fun x=>f x == v)+1:=by
  rw [List.take_add_one,h,List.countP_append];simp [hv]
 have h2:=(List.take_sublist (k+1) l).countP_le (p:=fun x=>f x == v);omega
set_option maxHeartbeats 2000000 in
theorem gTurn_ok (g a b:Nat)(N:Qaj)(x y:Tri)(w:World)(h:Qgk w g N) (hx:N.ar[a]?=some x) (hy:N.ar[b]?=some y) :
 Calls prog 130 #[.pointer (some ⟨g,0,none⟩),.int .i64 a,.int .i64 b] w fun e w'=>e=.returned (.int .i64 (Qaw N a b))∧Below w.heap.size w w':=by
 have hla:=(Zs hx).1;have hlb:=(Zs hy).1;have HA:=Zh (fun V (hV:Below w.heap.size w V)=>Qhs g N a V (h.below hV) (by omega) (by omega));have HB:=Zh (fun V (hV:Below w.heap.size w V)=>Qhs g N b V (h.below hV) (by omega) (by omega));have hax:=(show Qas N from by obtain ⟨A,B,C,I,O,P,n,m,k,c,d,e,ci,co,cp,h⟩:=h;exact h.ok).arcs x (Zm hx)
 obtain ⟨A,B,C,I,O,P,n,m,k,c,d,e,ci,co,cp,h⟩:=h;have hm:=h.ok.arLe h.net.2.1.1;have hlm:N.ar.length=m:=h.net.2.1.1;have hln:N.vs.length=n:=h.net.1.1;have hn4:=h.ok.lv;obtain ⟨bb,o,x1,x2,x3,rfl,hx',ax,ay,az⟩:=h.net.2.1.at_ (i:=a) (by omega);rw [hx] at hx'
 cases hx'
 obtain ⟨bb',o',y1,y2,y3,e',hy',bx,by_,bz⟩:=h.net.2.1.at_ (i:=b) (by omega)
 cases e'
 rw [hy] at hy'
 cases hy'
 have n1:=h.n1;have i1:(0:Int)≤(a:Int):=by omega
 have i2:(a:Int)<(m:Int):=by omega
 have i3:(0:Int)≤(b:Int):=by omega
 have i4:(b:Int)<(m:Int):=by omega
 have HSX:=Zh (show ∀ V,Below w.heap.size w V→V.cell? ⟨g,1,none⟩=some (.slice (some ⟨bb,o,none⟩) m d)∧V.cell? ⟨bb,o+a*3+1,none⟩=some (.int .i64 x2)∧V.cell? ⟨bb,o+b*3,none⟩=some (.int .i64 y1) from
  fun V hV=>⟨Zc hV (Zn _) n1,Zc hV (Zn _) ay,Zc hV (Zn _) bx⟩)
 have hay:=h.ok.arcs _ (Zm hy);obtain ⟨v,rfl⟩:∃ v:Nat,x2=(v:Int):=⟨x2.toNat,by have:=hax.g0;simp only at this;omega⟩;have hvn:v<n:=by have:=hax.g1;simp only at this;omega
 obtain ⟨b2,o2,v1,v2,v3,hA2,hv,vx,vy,vz⟩:=h.net.1.at_ (i:=v) hvn;subst hA2;have hvo:=h.ok.verts _ (Zm hv);obtain ⟨t,rfl⟩:∃ t:Nat,v3=(t:Int):=⟨v3.toNat,by have:=hvo.t0;simp only at this;omega⟩;have htl:N.ts.length=k:=h.net.2.2.1;have htk:t<k:=by have:=hvo.t1;simp only at this;omega
 obtain ⟨b3,o3,tb,hA3,htb,t0,t1,AT,nT,cT,t2,hrd,hnT,hcT⟩:=h.net.2.2.at_ htk;subst hA3;have hto:=h.ok.tabs tb (Zm htb);have hk:=h.ok.lt;obtain ⟨b4,o4,pa1,pa2,hA4,hpa,pa,pb⟩:=h.plc.at_ (i:=a) (by omega);subst hA4;rw [Qgp hx] at hpa;obtain ⟨b4',o4',pb1,pb2,e4,hpb,qa,qb⟩:=h.plc.at_ (i:=b) (by omega)
 cases e4
 rw [Qgp hy] at hpb;have n0:=h.n0;have n2:=h.n2;have n5:=h.n5;have hmt:=h.ok.meet v _ tb hv (by simpa using htb);obtain ⟨i,hi⟩:∃ i:Nat,i=(idx (·.2.1) (N.ar.take a) (v:Int)).length:=⟨_,rfl⟩;have hip:(i:Int)<tb.ins:=by rw [←hmt.1,hi];exact_mod_cast Qqw (f:=(·.2.1)) hx rfl
 have hpa1:pa1=(i:Int):=by simp only [Qew,Option.some.injEq,Prod.mk.injEq] at hpa;rw [hi];exact hpa.1.symm
 subst hpa1;obtain ⟨q,hq⟩:∃ q:Nat,q=(idx (·.1) (N.ar.take b) y1).length:=⟨_,rfl⟩;have hqp:y1=(v:Int)→(q:Int)<tb.outs:=fun e=>by rw [←hmt.2,hq,e];exact_mod_cast Qqw (f:=(·.1)) hy e
 have hpb2:pb2=(q:Int):=by simp only [Qew,Option.some.injEq,Prod.mk.injEq] at hpb;rw [hq];exact hpb.2.symm
 subst hpb2
 have HTN:=Zh (show ∀ z,y1=(v:Int)→tb.costs[i*tb.outs.toNat+q]?=some z→Qaw N a b=z from fun z e hz=>by
  unfold Qaw;rw [hx,hy];simp only [if_pos e.symm,Int.toNat_natCast,hv,htb,Qew,←hi,←hq];rw [List.getD_eq_getElem?_getD,hz]
  rfl)
 have i5:(0:Int)≤(v:Int):=by omega
 have i6:(v:Int)<(n:Int):=by omega
 have i7:(0:Int)≤(t:Int):=by omega
 have i8:(t:Int)<(k:Int):=by omega
 have HTA:=Zh (fun V (hV:Below w.heap.size w V) (e:y1=(v:Int))=>Qop AT nT cT tb i q V (hrd.below hV) hto hip (hqp e))
 have HY:=Zh (show ∀ V,Below w.heap.size w V→V.cell? ⟨g,0,none⟩=some (.slice (some ⟨b2,o2,none⟩) n c)∧V.cell? ⟨g,2,none⟩=some (.slice (some ⟨b3,o3,none⟩) k e)∧V.cell? ⟨g,5,none⟩=some (.slice (some ⟨b4,o4,none⟩) m cp) ∧
  V.cell? ⟨b2,o2+v*3,none⟩=some (.int .i64 v1)∧V.cell? ⟨b2,o2+v*3+1,none⟩=some (.int .i64 v2)∧V.cell? ⟨b2,o2+v*3+2,none⟩=some (.int .i64 t) ∧
  V.cell? ⟨b3,o3+t*3,none⟩=some (.int .i64 tb.ins)∧V.cell? ⟨b3,o3+t*3+1,none⟩=some (.int .i64 tb.outs)∧V.cell? ⟨b3,o3+t*3+2,none⟩=some (.slice AT nT cT) ∧
  V.cell? ⟨b4,o4+a*2,none⟩=some (.int .i64 i)∧V.cell? ⟨b4,o4+b*2+1,none⟩=some (.int .i64 q) from
  fun V hV=>⟨Zc hV (Zn _) n0,Zc hV (Zn _) n2,Zc hV (Zn _) n5,Zc hV (Zn _) vx,Zc hV (Zn _) vy,Zc hV (Zn _) vz,Zc hV (Zn _) t0,Zc hV (Zn _) t1,Zc hV (Zn _) t2,Zc hV (Zn _) pa,Zc hV (Zn _) qb⟩)
 clear n0 n2 n5 vx vy vz t0 t1 t2 pa pb qa qb hpa hpb hrd hip hqp hmt hv htb hi hq;clear h n1 ax ay az bx by_ bz
 go_enter func130,ntmps130
 go_wp2_with fail
 refine wp_region_held_drew (S:=fun V=>Below w.heap.size w V) (by kernel_rfl) (Zr _ _).drew (fun _=>?_);refine tz 0 8 ?_;refine tz 1 9 ?_;refine Zk 2 (fun K hK=>?_);go_simp;with_reducible refine (HA.out _ Qae).mono ?_
 rintro e w' ⟨rfl,rfl⟩;go_simp;refine hK.out _ _ Qae (fun _=>?_);clear hK K;refine tz 3 11 ?_;refine tz 4 12 ?_;refine tz 5 13 ?_;refine tz 6 14 ?_;refine Zk 7 (fun K hK=>?_);go_simp;with_reducible refine (HB.out _ Qae).mono ?_
 rintro e w' ⟨rfl,rfl⟩;go_simp;refine hK.out _ _ Qae (fun _=>?_);clear hK K;refine tz 8 16 ?_;refine tz 9 17 ?_;refine tz 10 18 ?_;refine tz 11 19 ?_;refine tz 12 20 ?_;refine tz 13 21 ?_;refine tz 14 22 ?_;refine tz 15 23 ?_;refine tz 16 24 ?_;refine tz 17 25 ?_;refine tz 18 26 ?_;refine tz 19 27 ?_;refine tz 20 28 ?_;refine tz 21 29 ?_;refine tz 22 30 ?_;refine tz 23 31 ?_;refine tz 24 32 ?_;refine tz 25 33 ?_;refine tz 26 34 ?_;refine tz 27 35 ?_;refine tz 28 36 ?_;refine tz 29 37 ?_;refine tz 30 38 ?_;refine Zd ?_
 by_cases hxy:(v:Int)=y1
 · have e1:((v:Int) != y1)=false:=by simp [hxy]
   subst hxy;have HSX1:=HSX;clear HSX;have HSX:=Zh (fun V hV=>And.intro (HSX1.out V hV) (HY.out V hV))
   go_wp2_with fail
   refine wp_region_held_drew (S:=fun V=>Below w.heap.size w V) (by kernel_rfl) (Zr _ _).drew.drew (fun _=>?_);refine tz 0 39 ?_;refine tz 1 40 ?_;refine tz 2 41 ?_;refine tz 3 42 ?_;refine tz 4 43 ?_;refine tz 5 44 ?_;refine tz 6 45 ?_;refine tz 7 46 ?_;refine tz 8 47 ?_;refine tz 9 48 ?_;refine tz 10 49 ?_;refine tz 11 50 ?_;refine tz 12 51 ?_;refine tz 13 52 ?_;refine tz 14 53 ?_;refine tz 15 54 ?_;refine Zk 16 (fun K hK=>?_);go_simp;refine hK.out _ _ Qae (fun _=>?_);clear hK K;refine Zk 17 (fun K hK=>?_);go_simp;refine hK.out _ _ Qae (fun _=>?_);clear hK K;refine Zd ?_;obtain ⟨W2,hW2⟩:∃ W2,W2=(w.alloc (.cells #[.int .i64 v1,.int .i64 v2,.int .i64 (t:Int)] 144)).drew.drew:=⟨_,rfl⟩;have hb2:Below w.heap.size w W2:=by rw [hW2];exact Qae
   have hbl:Blk W2 w.heap.size 144 #[.int .i64 v1,.int .i64 v2,.int .i64 (t:Int)]:=by rw [hW2];exact Qau
   have c2:W2.cell? ⟨w.heap.size,2,none⟩=some (.int .i64 (t:Int)):=Zq hbl;have hlt:=hbl.lt;rw [←hW2];have HSX2:=HSX;clear HSX hbl hW2 HY HSX1;have HSX:=Zh (fun V (hV:Below w.heap.size w V∧V.cell? ⟨w.heap.size,2,none⟩=some (.int .i64 (t:Int)))=>And.intro hV.2 (HSX2.out V hV.1))
   go_wp2_with fail
   refine wp_region_held_drew (S:=fun V=>Below w.heap.size w V∧V.cell? ⟨w.heap.size,2,none⟩=some (.int .i64 (t:Int))) (by kernel_rfl) ⟨hb2.drew,c2⟩ (fun hS0=>?_);refine tz 0 55 ?_;refine tz 1 56 ?_;refine tz 2 57 ?_;refine tz 3 58 ?_;refine tz 4 59 ?_;refine tz 5 60 ?_;refine tz 6 61 ?_;refine tz 7 62 ?_;refine tz 8 63 ?_;refine tz 9 64 ?_;refine tz 10 65 ?_;refine tz 11 66 ?_;refine tz 12 67 ?_;refine tz 13 68 ?_;refine tz 14 69 ?_;refine tz 15 70 ?_;refine tz 16 71 ?_;refine tz 17 72 ?_;refine tz 18 73 ?_;refine tz 19 74 ?_;refine tz 20 75 ?_;refine tz 21 76 ?_;refine tz 22 77 ?_;refine tz 23 78 ?_;refine tz 24 79 ?_;refine Zk 25 (fun K hK=>?_);go_simp;with_reducible refine (HTA.out _ hS0.1 trivial).mono ?_
   rintro e w' ⟨z,hz,rfl,hb'⟩;have hb3:Below w.heap.size w w':=hS0.1.trans (hb'.mono hS0.1.size);have c3:w'.cell? ⟨w.heap.size,2,none⟩=some (.int .i64 (t:Int)):=Zc hb' (Zn _) c2;have HZ:=Zh (HTN.out z trivial hz);clear hz;go_simp;refine hK.out _ _ ⟨hb3,c3⟩ (fun _=>?_);clear hK K;refine tz 26 6 ?_;refine Zd ?_
   go_wp2_with fail
   go_ret
   rw [HZ.out];exact ⟨rfl,hb3⟩
 · have e1:((v:Int) != y1)=true:=by simp [hxy]
   go_wp2_with fail
   go_ret
   exact ⟨by rw [show Qaw N a b=1152921504606846976 by unfold Qaw;rw [hx,hy];simp [hxy]];rfl,Qae⟩
section
variable {G:Nat→Prop} {g gc gs n m c:Nat} {A:Option Addr} {R:List Nat} {C:List Int} {S:List Nat}
theorem Qav.cut {W:World}(h:Qav W G g A gc gs n m c R C S){L:Nat}(hL:L≤m):Qav (W.setCell ⟨g,0,none⟩ (.slice A L c)) G g A gc gs n L c (R.take L) C S:=by
 have h1:Own W 0 3 1 A L c (Qad (nis (R.take L))):=h.row.front_ hL (by simp [Qad,nis,List.map_take]);refine ⟨?_,h1.far (Qaa _ _ _ _) (.inr fun e=>(h.dA g e).1 rfl),h.cs.far_ (fun e=>h.dg.1 e.symm) _,h.ss.far_ (fun e=>h.dg.2.1 e.symm) _,h.dA,h.dg,h.dG,fun b hb=>by simpa [World.setCell] using h.lt b hb,by rw [List.length_take,h.lr];omega,h.lc,h.ls,h.n0⟩;exact h.blk.set_ 0 _
set_option maxHeartbeats 1000000 in
theorem Qrx (w:World)(h:Qav w G g A gc gs n 0 c R C S) :
 Calls prog 136 #[.pointer (some ⟨g,0,none⟩)] w fun e w'=>e=.returned (.tuple #[.int .i64 0,.int .i64 0,.bool false])∧w=w':=by
 have f0:=h.f0;clear h
 go_enter func136,ntmps136
 go_wp2_with fail
 refine bodyPost_ret (v:=.tuple #[.int .i64 0,.int .i64 0,.bool false]) (by simp [results,results136,go_sem]) rfl ?_;exact ⟨rfl,rfl⟩
set_option maxHeartbeats 2000000 in
theorem Qsu (w:World)(L:Nat) (h:Qav w G g A gc gs n (L+1) c R C S) (hp:HpS n R C S) (ho:Ord (at_ R C) (L+1)) (k:Nat) (hk:R[0]?=some k) (x:Int) (hx:C[k]?=some x) :
 Calls prog 136 #[.pointer (some ⟨g,0,none⟩)] w fun e w'=>e=.returned (.tuple #[.int .i64 k,.int .i64 x,.bool true])∧(∃ (R' S':List Nat),Qav w' G g A gc gs n L c R' C S'∧HpS n R' C S'∧Ord (at_ R' C) L∧∀ q,q∈R'↔q∈R∧q≠k)∧Aft G w w':=by
 obtain ⟨gr,hgr,hfr⟩:=h.rowBlk (by omega);subst hgr;have hlr:=h.lr;have hcap:=h.cap;have hn0:=h.n0;have hkn:k<n:=(hp.seat 0 k hk).1
 obtain ⟨b,y,la,lb,lc,ld⟩:=hp.key (i:=L) (by omega);have f0:=h.f0;have r0:=h.rowAt hk;have HSW:=Zh (fun V (hV:Qav V G g (some ⟨gr,0,none⟩) gc gs n (L+1) c R C S)=>(show Calls prog 161 #[.pointer (some ⟨g,0,none⟩),.int .i64 0,.int .i64 L] V _ from Qjo V hV hk la hkn lb))
 have HPP:=Zh (hp.pop hlr hk);have HPO:=Zh (hp.popOrd ho hlr hk);have HH:=Zh h.drew;have i1:((L:Int)+1 == 0)=false:=by simp;omega
 have e1:IntKind.i64.wrap ((L:Int)+1-1)=(L:Int):=by rw [show (L:Int)+1-1=(L:Int) by omega];exact IntWalk.i64_in _ (by omega)
 have hle:=hp.le;clear h hp ho la lc ld
 go_enter func136,ntmps136
 go_wp2_with fail
 refine wp_region_held_drew (S:=fun V=>V.cell? ⟨g,0,none⟩=some (.slice (some ⟨gr,0,none⟩) (L+1) c)∧V.cell? ⟨gr,0,none⟩=some (.int .i64 k)) (by kernel_rfl) ⟨f0,r0⟩ (fun _=>?_);refine tz 0 13 ?_;refine tz 1 14 ?_;refine tz 2 15 ?_;refine tz 3 16 ?_;refine tz 4 17 ?_;refine tz 5 18 ?_;refine tz 6 19 ?_;refine tz 7 20 ?_;refine tz 8 21 ?_;refine tz 9 22 ?_;refine tz 10 23 ?_;refine tz 11 24 ?_;refine tz 12 5 ?_;refine tz 13 6 ?_;refine Zd ?_;clear f0 r0
 go_wp2_with fail
 with_reducible refine (HSW.out _ HH.out).mono ?_
 rintro e w1 ⟨rfl,hw1,ha1⟩;have ha:Aft G w w1:=⟨ha1.kept,ha1.size,fun B hB=>(Zr B w).drew.trans (ha1.bel B hB)⟩;have f0:=hw1.f0;have z0:w1.frozen? ⟨g,0,none⟩=false:=hw1.blk.frozen 0;have hw2:=hw1.cut (L:=L) (by omega);have f2:=hw2.f2;have s2:=hw2.seatAt (i:=k) (Qbd 0 (by rw [hw2.ls];exact hkn));have z2:w1.frozen? ⟨gs,k,none⟩=false:=hw1.ss.frozen k;have hw3:Qav ((w1.setCell ⟨g,0,none⟩ (.slice (some ⟨gr,0,none⟩) L c)).setCell ⟨gs,k,none⟩ (.int .i64 0)) G g (some ⟨gr,0,none⟩) gc gs n L c _ C _:=hw2.setS (i:=k) (k:=0);have HDN:=Zh (Qul _ hw3 HPP.out.1 HPO.out);have HA3:=Zh ((ha.set hw1.dG.1 (i:=0) (.slice (some ⟨gr,0,none⟩) L c)).set hw1.dG.2.2 (i:=k) (.int .i64 0));have i2:(0:Int)≤(k:Int):=by omega
 have i3:(k:Int)<(n:Int):=by omega
 have i4:(L:Int)≤(c:Int):=by omega
 clear hw1 hw2 hw3 ha ha1 HSW HH
 go_wp2_with fail
 with_reducible refine HDN.out.mono ?_
 rintro e w3 ⟨rfl,R',S',hw3,hp3,ho3,hk3,ha3⟩;have f1:=hw3.f1;have q1:=hw3.costAt hx;have HW4:=Zh hw3.drew;have HA4:=Zh (HA3.out.trans ha3).drew;have HP4:=Zh hp3;have HO4:=Zh ho3;have HK4:=Zh hk3;clear hw3 ha3 hp3 ho3 hk3 HDN HA3 f0 z0 f2 s2 z2
 go_wp2_with fail
 refine wp_region_held_drew (S:=fun V=>V.cell? ⟨g,1,none⟩=some (.slice (some ⟨gc,0,none⟩) n n)∧V.cell? ⟨gc,k,none⟩=some (.int .i64 x)) (by kernel_rfl) ⟨f1,q1⟩ (fun _=>?_);refine tz 0 45 ?_;refine tz 1 46 ?_;refine tz 2 47 ?_;refine tz 3 48 ?_;refine tz 4 49 ?_;refine tz 5 50 ?_;refine tz 6 51 ?_;refine tz 7 52 ?_;refine tz 8 2 ?_;refine tz 9 3 ?_;refine tz 10 4 ?_;refine Zd ?_
 go_wp2_with fail
 refine bodyPost_ret (v:=.tuple #[.int .i64 k,.int .i64 x,.bool true]) (by simp [results,results136,go_sem]) rfl ?_;exact ⟨rfl,⟨R',S',HW4.out,HP4.out,HO4.out,fun q=>(HK4.out q).trans (HPP.out.2.1 q)⟩,HA4.out⟩
theorem hpPop_ok (w:World)(hp:Nat→Option Int)(h:Qda w G g n hp) :
 Calls prog 136 #[.pointer (some ⟨g,0,none⟩)] w fun e w' =>
  (((∀ q,hp q=none)∧e=.returned (.tuple #[.int .i64 0,.int .i64 0,.bool false])∧Qda w' G g n hp) ∨
   ∃ k x,k<n∧hp k=some x∧(∀ q z,hp q=some z→x≤z)∧e=.returned (.tuple #[.int .i64 (k:Nat),.int .i64 x,.bool true])∧Qda w' G g n (fun q=>if q=k then none else hp q))∧Aft G w w':=by
 obtain ⟨A,gc,gs,m,c,R,C,S,hw,hs,ho,hin⟩:=h;have hlr:=hw.lr
 rcases m with _|L
 · refine (Qrx w hw).mono ?_
   rintro e w' ⟨rfl,rfl⟩;obtain rfl:=List.eq_nil_of_length_eq_zero hlr;exact ⟨.inl ⟨fun q=>by rw [hin q];simp [Qqe],rfl,A,gc,gs,0,c,[],C,S,hw,hs,ho,hin⟩,Aft.refl _ _⟩
 · obtain ⟨k,x,hk,hkn,hx,_⟩:=hs.key (i:=0) (by omega)
   refine (Qsu w L hw hs ho k hk x hx).mono ?_;rintro e w' ⟨rfl,⟨R',S',k1,k2,k3,k4⟩,ha⟩;have hm:k∈R:=List.mem_iff_getElem?.2 ⟨0,hk⟩;refine ⟨.inr ⟨k,x,hkn,by rw [hin k];unfold Qqe;rw [if_pos hm];exact hx,fun q z hq=>Qrq hs (by rw [hlr];exact ho) hk hx ((hin q).symm.trans hq),rfl,A,gc,gs,L,c,R',C,S',k1,k2,k3,fun q=>?_⟩,ha⟩
   show (if q=k then none else hp q)=_
   unfold Qqe
   by_cases e:q=k
   · rw [if_pos e,if_neg (fun h=>((k4 q).1 h).2 e)]
   · rw [if_neg e,hin q]
     unfold Qqe
     by_cases hq:q∈R
     · rw [if_pos hq,if_pos ((k4 q).2 ⟨hq,e⟩)]
     · rw [if_neg hq,if_neg (fun h=>hq ((k4 q).1 h).1)]
set_option maxHeartbeats 1000000 in
theorem Qtc (w:World)(hp:Nat→Option Int)(h:Qda w G g n hp) :
 Calls prog 134 #[.pointer (some ⟨g,0,none⟩)] w fun e w'=>e=.returned (.tuple #[])∧Qda w' G g n (fun _=>none)∧Aft G w w':=by
 obtain ⟨A,gc,gs,m,c,R,C,S,hw,hs,ho,hin⟩:=h;have hlr:=hw.lr;have hcap:=hw.cap;have hn0:=hw.n0;have hle:=hs.le;have f0:=hw.f0;have HH:=Zh hw;have HS:=Zh hs
 have HNO:=Zh (show ∀ q s,S[q]?=some s→q ∉ R→s=0 from fun q s h1 h2=>by
  rcases s with _|s
  · rfl
  · exact absurd (List.mem_iff_getElem?.2 ⟨s,hs.none_ q s h1⟩) h2)
 clear hw hs ho hin
 go_enter func134,ntmps134
 go_wp2_with fail
 go_loopw [9] (fun x W=>∃ (i:Nat) (S':List Nat),x=.int .i64 i∧i≤m∧Qav W G g A gc gs n m c R C S'∧(∀ q s,S'[q]?=some s→s=0∨(S[q]?=some s∧q ∉ R.take i))∧Aft G w W) (fun x _=>m-(intOf x).toNat)
 case atStart=>exact ⟨0,S,by go_num,by omega,HH.out,fun q s h1=>.inr ⟨h1,by simp⟩,Aft.refl _ _⟩
 case round =>
  obtain ⟨i,S',rfl,him,hw,hz,ha⟩:=hrel
  by_cases hlt:i<m
  · obtain ⟨gr,hgr,hfr⟩:=hw.rowBlk (by omega)
    subst hgr;obtain ⟨k,hk⟩:∃ k,R[i]?=some k:=⟨_,Qbd 0 (by omega)⟩;have hkn:=(HS.out.seat i k hk).1;have r0:=hw.rowAt hk;have f2:=hw.f2;have s0:=hw.seatAt (i:=k) (Qbd 0 (by rw [hw.ls];exact hkn));have z0:wr.frozen? ⟨gs,k,none⟩=false:=hw.ss.frozen k;have hw2:Qav (wr.setCell ⟨gs,k,none⟩ (.int .i64 0)) G g (some ⟨gr,0,none⟩) gc gs n m c R C (S'.set k 0):=hw.setS (i:=k) (k:=0);have HW2:=Zh hw2;have HA2:=Zh (ha.set hw.dG.2.2 (i:=k) (.int .i64 0));have HZ:=Zh hz;have i1:(0:Int)≤(i:Int):=by omega
    have i2:(i:Int)<(m:Int):=by omega
    have i3:(0:Int)≤(k:Int):=by omega
    have i4:(k:Int)<(n:Int):=by omega
    have hls:=hw.ls;clear hw hz ha hw2
    go_wp2_with fail
    go_roundw
    case rel =>
     refine ⟨i+1,S'.set k 0,by go_num,by omega,HW2.out,fun q s h1=>?_,HA2.out⟩
     by_cases e:k=q
     · subst e
       rw [List.getElem?_set_self (by omega)] at h1;exact .inl (Option.some.inj h1).symm
     · rw [List.getElem?_set_ne e] at h1
       rcases HZ.out q s h1 with h2|⟨h2,h3⟩
       · exact .inl h2
       · refine .inr ⟨h2,fun h4=>?_⟩
         rw [List.take_add_one,hk] at h4;simp only [Option.toList_some,List.mem_append,List.mem_singleton] at h4;exact h4.elim h3 (fun e2=>e e2.symm)
    case measure=>simp [intOf];omega
  · obtain rfl:i=m:=by omega
    have f0:=hw.f0;have z0:wr.frozen? ⟨g,0,none⟩=false:=hw.blk.frozen 0;have hw2:=hw.cut (L:=0) (by omega);have HW2:=Zh hw2;have HA2:=Zh (ha.set hw.dG.1 (i:=0) (.slice A 0 c));have HZ:=Zh hz;clear hw hz ha hw2
    go_wp2_with fail
    go_end0
    refine ⟨rfl,⟨A,gc,gs,0,c,[],C,S',HW2.out,⟨HW2.out.lc,HW2.out.ls,fun q k h1=>by simp at h1,fun k q h1=>?_⟩,fun q _ h1=>by omega,fun q=>by simp [Qqe]⟩,HA2.out⟩
    rcases HZ.out k _ h1 with h2|⟨h2,h3⟩
    · omega
    · rw [List.take_of_length_le (by omega)] at h3
      exact absurd (HNO.out k _ h2 h3) (by omega)
theorem Qfq (n:Nat)(hn:n≤1000000000)(W:World):(Instr.makeSlice 30 (.int .i64 (n:Int)) (.int .i64 (n:Int))).run prog W=.ok (.slice (some ⟨W.heap.size,0,none⟩) n n) (W.alloc (.cells (Qba (.int .i64 0) n) 2)) :=
 Qdt (P:=prog) 30 2 (.int .i64 0) 8 Qtv underlying30 rfl n (by omega) (by omega) .i64 .i64 W
theorem nis_zero (n:Nat):nis (List.replicate n 0)=List.replicate n 0:=by simp [nis]
theorem Qda.made {W w:World}{n g gc gs:Nat} (hb:Blk W g 269 #[.slice none 0 0,.slice (some ⟨gc,0,none⟩) n n,.slice (some ⟨gs,0,none⟩) n n]) (hc:Blk W gc 2 (Qba (.int .i64 0) n)) (hs:Blk W gs 3 (Qba (.int .i64 0) n))
 (h1:g≠gc∧g≠gs∧gc≠gs) (h2:w.heap.size≤g∧w.heap.size≤gc∧w.heap.size≤gs) (hz:w.heap.size≤W.heap.size) (hn:n≤16384):Qda W (fun b=>b<w.heap.size) g n (fun _=>none):=by
 refine ⟨none,gc,gs,0,0,[],List.replicate n 0,List.replicate n 0,⟨hb,Own.nil _ _ _ _,by rw [←Qdo];exact hc,by rw [nis_zero,←Qdo];exact hs,fun b e=>by simp [Qab] at e,h1,⟨by omega,by omega,by omega⟩,fun b hb=>by omega,rfl,by simp,by simp,hn⟩,⟨by simp,by simp,fun i k h=>by simp at h,fun k i h=>?_⟩,fun i _ h=>by omega,fun k=>by simp [Qqe]⟩;have:=(Zs h).2;simp at this
set_option maxHeartbeats 1000000 in
theorem hpNew_ok (w:World)(n:Nat)(hn:n≤16384) :
 Calls prog 133 #[.int .i64 n] w fun e w'=>∃ g,e=.returned (.pointer (some ⟨g,0,none⟩))∧Qda w' (fun b=>b<w.heap.size) g n (fun _=>none)∧Below w.heap.size w w':=by
 have hmk:=Qdn n (by omega);have hmc:=Qfq n (by omega);have e1:max (n:Int) 0=(n:Int):=by omega
 have e2:min (n:Int) 16384=(n:Int):=by omega
 go_enter func133,ntmps133
 go_wp2_with fail
 refine wp_region_held_drew (S:=fun V=>Below w.heap.size w V) (by kernel_rfl) (Zr _ _).drew (fun _=>?_);refine tz 0 6 ?_;refine tz 2 8 ?_;refine wpAnyH_ready (rs:=[1,3]) (by kernel_rfl) (by simp) ?_;refine AllReadyH.cons (o:=_) rfl (fun K hK=>?_) (AllReadyH.cons (o:=_) rfl (fun K hK=>?_) AllReadyH.nil)
 · go_simp
   refine hK.out _ _ Qae (fun _=>?_);clear hK K;refine Zk 3 (fun K hK=>?_);go_simp;refine hK.out _ _ Qae (fun _=>?_);clear hK K;refine tz 4 10 ?_;refine Zk 5 (fun K hK=>?_);go_simp;refine hK.out _ _ Qae (fun _=>?_);clear hK K;refine tz 6 2 ?_;refine Zd ?_
   go_wp2_with fail
   go_ret
   refine ⟨_,rfl,Qda.made (gc:=w.heap.size) (gs:=w.heap.size+1) Qau Qau Qau ?_ ?_ ?_ hn,Qae⟩
   all_goals (simp;try omega)
 · go_simp
   refine hK.out _ _ Qae (fun _=>?_);clear hK K;refine Zk 1 (fun K hK=>?_);go_simp;refine hK.out _ _ Qae (fun _=>?_);clear hK K;refine tz 4 10 ?_;refine Zk 5 (fun K hK=>?_);go_simp;refine hK.out _ _ Qae (fun _=>?_);clear hK K;refine tz 6 2 ?_;refine Zd ?_
   go_wp2_with fail
   go_ret
   refine ⟨_,rfl,Qda.made (gs:=w.heap.size) (gc:=w.heap.size+1) Qau Qau Qau ?_ ?_ ?_ hn,Qae⟩
   all_goals (simp;try omega)
end
end Go.Proofs.YthoagdpakddbdaaGreatDoor
