/- Parts of the proof: Hs, Hz, Gb, Gt, RfT, Fx, Ch4, Ch5. -/
import Derived.Test.YtdheeddnkdhfeaaGreatDoorJ6
import Derived.Test.YtdheeddnkdhfeaaGreatDoorJ7
namespace Go.Proofs.YtdheeddnkdhfeaaGreatDoor
def Qsq (R:List Nat)(C:List Int)(k:Nat):Option Int:=if k∈R then C[k]? else none
section
variable {n k:Nat} {r st:List Nat} {cs:List Int} {x:Int}
theorem HpS.out (h:HpS n r cs st)(hk:k<n):st[k]?=some 0↔k ∉ r:=by
 obtain ⟨s,hs⟩:∃ s,st[k]?=some s:=⟨_,Qbp 0 (by rw [h.ls];exact hk)⟩
 constructor
 · intro h0 hm
   obtain ⟨i,hi⟩:=List.mem_iff_getElem?.1 hm;have:=(h.seat i k hi).2;rw [h0] at this
   injection this with this
   omega
 · intro hm
   rcases s with _|s
   · exact hs
   · exact absurd (List.mem_iff_getElem?.2 ⟨s,h.none_ k s hs⟩) hm
theorem HpS.in_ (h:HpS n r cs st)(hm:k∈r):∃ i,r[i]?=some k∧i<r.length∧k<n∧st[k]?=some (i+1):=by
 obtain ⟨i,hi⟩:=List.mem_iff_getElem?.1 hm;exact ⟨i,hi,(Zs hi).1,(h.seat i k hi).1,(h.seat i k hi).2⟩
theorem HpS.put (h:HpS n r cs st)(hk:k<n)(hn:k ∉ r):HpS n (r ++[k]) (cs.set k x) (st.set k (r.length+1)):=by
 refine ⟨by rw [Yq];exact h.lc,by rw [Yq];exact h.ls,fun i q hi=>?_,fun q i hq=>?_⟩
 · rw [List.getElem?_append] at hi
   by_cases hl:i<r.length
   · rw [if_pos hl] at hi
     have h1:=h.seat i q hi;have hne:k≠q:=fun e=>hn (e▸List.mem_iff_getElem?.2 ⟨i,hi⟩)
     exact ⟨h1.1,by rw [Yh hne];exact h1.2⟩
   · rw [if_neg hl] at hi
     have h2:i-r.length=0:=by
      rcases Nat.eq_zero_or_pos (i-r.length) with e|e
      · exact e
      · rw [Yd (by simp;omega)] at hi;cases hi
     rw [h2] at hi
     cases hi
     refine ⟨hk,?_⟩;rw [Yg (by rw [h.ls];exact hk)]
     congr 1
     omega
 · by_cases e:k=q
   · subst e
     rw [Yg (by rw [h.ls];exact hk)] at hq
     injection hq with hq
     have:i=r.length:=by omega
     subst this;simp
   · rw [Yh e] at hq
     have h1:=h.none_ q i hq;rw [Yc (Zs h1).1];exact h1
theorem at_put (hn:k ∉ r):∀ i,i<r.length→at_ (r ++[k]) (cs.set k x) i=at_ r cs i:=fun i hi=>by
 have h1:=Qbp 0 hi;have hne:k≠r.getD i 0:=fun e=>hn (List.mem_iff_getElem?.2 ⟨i,by rw [e];exact h1⟩)
 unfold at_;rw [Qcp (d:=0) (show (r ++[k])[i]?=some (r.getD i 0) by rw [Yc hi];exact h1),Ya,Yh hne,←Ya]
theorem ord_put (ho:Ord (at_ r cs) r.length) (hn:k ∉ r):UpO (at_ (r ++[k]) (cs.set k x)) (r.length+1) r.length:=ho.push (at_put hn)
theorem HpS.setC (h:HpS n r cs st):HpS n r (cs.set k x) st:=⟨by rw [Yq];exact h.lc,h.ls,h.seat,h.none_⟩
theorem ord_less (h:HpS n r cs st) (ho:Ord (at_ r cs) r.length) {i:Nat} (hi:r[i]?=some k) (hx:x≤at_ r cs i):UpO (at_ r (cs.set k x)) r.length i:=by
 have hl:=(Zs hi).1;have hk:=(h.seat i k hi).1;refine ho.lower (fun j hj hne=>?_) ?_ hl
 · have h1:=Qbp 0 hj
   have hne2:k≠r.getD j 0:=fun e=>hne (h.nodup (by rw [e];exact h1) hi)
   unfold at_;rw [Ya (l:=cs.set k x),Yh hne2,←Ya]
 · have:at_ r (cs.set k x) i=x:=by
    unfold at_;rw [Qcp hi];exact Qcp (by rw [Yg (by rw [h.lc];exact hk)])
   rw [this];exact hx
def Qix (hp:Nat→Option Int)(k:Nat)(x:Int):Nat→Option Int:=fun q=>if q=k then some (match hp k with|none=>x|some y=>if y≤x then y else x) else hp q
theorem Qum {r':List Nat}(hl:k<cs.length)(hm:∀ q,q∈r'↔q∈r∨q=k)(q:Nat):Qsq r' (cs.set k x) q=if q=k then some x else Qsq r cs q:=by
 unfold Qsq
 by_cases e:q=k
 · subst e
   rw [if_pos rfl,if_pos ((hm q).2 (.inr rfl)),Yg hl]
 · rw [if_neg e,Yh (fun e2=>e e2.symm)]
   by_cases hq:q∈r
   · rw [if_pos ((hm q).2 (.inl hq)),if_pos hq]
   · rw [if_neg (fun h=>((hm q).1 h).elim hq e),if_neg hq]
theorem Qzg {y:Int}(hy:Qsq r cs k=some y):k∈r∧cs[k]?=some y:=by
 unfold Qsq at hy
 by_cases hm:k∈r
 · rw [if_pos hm] at hy;exact ⟨hm,hy⟩
 · rw [if_neg hm] at hy;cases hy
theorem inAt_out (h:HpS n r cs st)(hy:Qsq r cs k=none):k ∉ r:=fun hm=>by
 unfold Qsq at hy;rw [if_pos hm] at hy;obtain ⟨i,_,_,hk,_⟩:=h.in_ hm;rw [Qbp 0 (by rw [h.lc];exact hk)] at hy
 cases hy
def Qwx (hp:Nat→Option Int)(k:Nat)(x:Int):Bool:=match hp k with|none=>true|some y=>!decide (y≤x)
theorem Qvu (h:HpS n r cs st) (ho:Ord (at_ r cs) r.length) {y z:Int} {q:Nat} (hk:r[0]?=some k) (hx:cs[k]?=some y) (hq:Qsq r cs q=some z):y≤z:=by
 obtain ⟨hm,hz⟩:=Qzg hq;obtain ⟨i,hi,hl,_,_⟩:=h.in_ hm;have h1:=ho.root i hl;unfold at_ at h1;rw [Qcp hk,Qcp hi,Qcp hx,Qcp hz] at h1;exact h1
theorem HpS.pop {L:Nat}(h:HpS n r cs st)(hl:r.length=L+1) (hk:r[0]?=some k) :
 HpS n ((Qea r 0 L).take L) cs ((Qjl r st 0 L).set k 0)∧(∀ q,q∈(Qea r 0 L).take L↔q∈r∧q≠k)∧∀ i,0<i→i<L→at_ ((Qea r 0 L).take L) cs i=at_ r cs i:=by
 have h1:=h.swap (i:=0) (j:=L) (by omega) (by omega);have hg:∀ x,(Qea r 0 L)[x]?=if x=L then some k else if x=0 then r[L]? else r[x]?:=fun x=>by rw [Qdn (by omega) (by omega),hk]
 have hL:(Qea r 0 L)[L]?=some k:=by rw [hg,if_pos rfl]
 have hlen:(Qea r 0 L).length=L+1:=by rw [Qfd];exact hl
 have hkn:k<(Qjl r st 0 L).length:=by rw [h1.ls];exact (h.seat 0 k hk).1
 generalize hr1:Qea r 0 L=r1 at *;generalize hs1:Qjl r st 0 L=s1 at *;refine ⟨⟨h1.lc,by rw [Yq];exact h1.ls,fun i q hi=>?_,fun q i hq=>?_⟩,fun q=>⟨fun hq=>?_,fun hq=>?_⟩,fun i h0 hi=>?_⟩
 · rw [List.getElem?_take] at hi
   by_cases hil:i<L
   · rw [if_pos hil] at hi
     have hne:k≠q:=fun e=>by rw [←e] at hi;have:=h1.nodup hi hL;omega
     rw [Yh hne];exact h1.seat i q hi
   · rw [if_neg hil] at hi;cases hi
 · by_cases e:k=q
   · subst e
     rw [Yg hkn] at hq
     injection hq with hq
     omega
   · rw [Yh e] at hq
     have h2:=h1.none_ q i hq;have hne:i≠L:=fun e2=>by rw [e2,hL] at h2;exact e (Yv h2)
     have:=(Zs h2).1;rw [List.getElem?_take,if_pos (by omega)];exact h2
 · obtain ⟨i,hi⟩:=List.mem_iff_getElem?.1 hq
   rw [List.getElem?_take] at hi
   by_cases hil:i<L
   · rw [if_pos hil] at hi
     refine ⟨?_,fun e=>by rw [e] at hi;have:=h1.nodup hi hL;omega⟩;have hi2:=hi;rw [hg,if_neg (by omega)] at hi2
     by_cases e:i=0
     · rw [if_pos e] at hi2;exact List.mem_iff_getElem?.2 ⟨_,hi2⟩
     · rw [if_neg e] at hi2;exact List.mem_iff_getElem?.2 ⟨_,hi2⟩
   · rw [if_neg hil] at hi;cases hi
 · obtain ⟨hm,hne⟩:=hq
   obtain ⟨i,hi⟩:=List.mem_iff_getElem?.1 hm;have hil:=(Zs hi).1;have hi0:i≠0:=fun e=>by rw [e,hk] at hi;exact hne (Yv hi).symm
   by_cases e:i=L
   · refine List.mem_iff_getElem?.2 ⟨0,?_⟩
     rw [List.getElem?_take,if_pos (by omega),hg,if_neg (by omega),if_pos rfl,←e];exact hi
   · refine List.mem_iff_getElem?.2 ⟨i,?_⟩
     rw [List.getElem?_take,if_pos (by omega),hg,if_neg e,if_neg hi0];exact hi
 · have h2:(r1.take L)[i]?=r[i]?:=by rw [List.getElem?_take,if_pos hi,hg,if_neg (by omega),if_neg (by omega)]
   unfold at_;rw [Ya (l:=r1.take L),h2,←Ya]
theorem HpS.popOrd {L:Nat}(h:HpS n r cs st) (ho:Ord (at_ r cs) (L+1)) (hl:r.length=L+1) (hk:r[0]?=some k):Qie (at_ ((Qea r 0 L).take L) cs) L 0:=ho.pop (h.pop hl hk).2.2
end
end Go.Proofs.YtdheeddnkdhfeaaGreatDoor
namespace Go.Proofs.YtdheeddnkdhfeaaGreatDoor
open Go.RowKit Go.Proofs.Tryz
attribute [local go_sem ↓] Go.wp_at_zero Go.wp_at_succ
theorem hp1_one (x:Int):∀ u∈[Value.int .i64 x],u.oneCell'=true:=Qao [x]
section
variable {G:Nat→Prop} {g gc gs n m c:Nat} {A:Option Addr} {R:List Nat} {C:List Int} {S:List Nat}
def Qcu (W:World)(G:Nat→Prop)(g n:Nat)(hp:Nat→Option Int):Prop :=
 ∃ (A:Option Addr) (gc gs m c:Nat) (R:List Nat) (C:List Int) (S:List Nat),Qbk W G g A gc gs n m c R C S∧HpS n R C S∧Ord (at_ R C) m∧∀ k,hp k=Qsq R C k
theorem Qnp (w:World)(h:Qbk w G g A gc gs n m c R C S)(k:Nat)(hk:k<n) :
 Calls prog 148 #[.pointer (some ⟨g,0,none⟩),.int .i64 k] w fun e w'=>e=.returned (.bool true)∧w=w':=by
 have f2:=h.f2;have i1:(0:Int)≤(k:Int):=by omega
 have i2:(k:Int)<(n:Int):=by omega
 clear h
 go_enter func148,ntmps148
 exact Kda
theorem Qdk (w:World)(x:Int)(h0:0≤x)(h1:x≤1152921504606846976) :
 Calls prog 131 #[.int .i64 x] w fun e w'=>e=.returned (.int .i64 x)∧w=w':=by
 have e1:decide (x<0)=false:=by simp;omega
 have e2:decide (1152921504606846976<x)=false:=by simp;omega
 go_enter func131,ntmps131
 exact Kda
theorem Qbk.push {W w':World}{G:Nat→Prop}{g gc gs n m c c' k:Nat}{A A':Option Addr}{R:List Nat}{C:List Int}{S:List Nat}{o:Obj}(h:Qbk W G g A gc gs n m c R C S)
 (hown:Own w' 0 3 1 A' (m+1) c' (Qaf (nis R) ++[.int .i64 (k:Int)])) (hg:(W.alloc o).grownBy w' (Qac A)) (hA:Qac A'=Qac A∨Qac A'=some (W.alloc o).heap.size) :
 Qbk (w'.setCell ⟨g,0,none⟩ (.slice A' (m+1) c')) G g A' gc gs n (m+1) c' (R ++[k]) C S∧Aft G W (w'.setCell ⟨g,0,none⟩ (.slice A' (m+1) c')):=by
 have hbl:Below W.heap.size W (W.alloc o):=(Zr _ _).alloc (Zn _) _;have hz:(W.alloc o).heap.size=W.heap.size+1:=by simp
 have k1:=h.keep hbl
 have hdA:∀ b,Qac A'=some b→b≠g∧b≠gc∧b≠gs∧¬G b:=fun b hb=>by
  rcases hA with e|e
  · exact h.dA b (e.symm.trans hb)
  · rw [hb] at e
    injection e with e
    have l1:=h.blk.lt;have l2:=h.cs.lt;have l3:=h.ss.lt;exact ⟨by omega,by omega,by omega,fun hG=>by have:=h.lt b hG;omega⟩
 have hne:∀ b,(b=g∨b=gc∨b=gs∨G b)→Qac A≠some b:=fun b hb e=>by
  obtain ⟨d1,d2,d3,d4⟩:=h.dA b e
  rcases hb with rfl|rfl|rfl|hb
  · exact d1 rfl
  · exact d2 rfl
  · exact d3 rfl
  · exact d4 hb
 have hb1:Blk w' g 258 #[.slice A m c,.slice (some ⟨gc,0,none⟩) n n,.slice (some ⟨gs,0,none⟩) n n]:=k1.blk.grown hg (hne g (.inl rfl));refine ⟨⟨?_,?_,(k1.cs.grown hg (hne gc (.inr (.inl rfl)))).far_ (fun e=>h.dg.1 e.symm) _,(k1.ss.grown hg (hne gs (.inr (.inr (.inl rfl))))).far_ (fun e=>h.dg.2.1 e.symm) _,hdA,h.dg,h.dG,fun b hb=>?_,by simp [h.lr],h.lc,h.ls,h.n0⟩,?_⟩
 · exact hb1.set_ 0 _
 · have:=hown.far (Qaa w' g 0 (.slice A' (m+1) c')) (.inr fun e=>(hdA g e).1 rfl)
   rw [Qnq,Qbr];exact this
 · have:=h.lt b hb
   have h2:=hg.size;simp only [World.setCell,Array.size_modify];omega
 · refine Aft.set ⟨?_,?_,fun B hB=>?_⟩ h.dG.1 _
   · exact (Qbb.below (G:=G) hbl).trans (Qbb.grown hg (fun b hb=>hne b (.inr (.inr (.inr hb))))) hbl.size
   · have h2:=hg.size
     omega
   · have hBz:B≤W.heap.size:=by
      rcases Nat.lt_or_ge W.heap.size B with hl|hl
      · exact absurd (h.lt _ (hB _ hl)) (by omega)
      · exact hl
     exact (hbl.mono hBz).trans (Below.grown (Zr _ _) hg (by omega) (fun b hb=>by
      rcases Nat.lt_or_ge b B with hl|hl
      · exact absurd hb (hne b (.inr (.inr (.inr (hB b hl)))))
      · exact hl))
set_option maxHeartbeats 2000000 in
theorem Qxt (w:World)(h:Qbk w G g A gc gs n m c R C S)(hp:HpS n R C S) (ho:Ord (at_ R C) m) (k:Nat) (hk:k<n) (hn:k ∉ R) (x:Int) (h0:0≤x) (h1:x≤1152921504606846976) :
 Calls prog 101 #[.pointer (some ⟨g,0,none⟩),.int .i64 k,.int .i64 x] w fun e w'=>e=.returned (.bool true)∧(∃ (A':Option Addr) (c':Nat) (R' S':List Nat),Qbk w' G g A' gc gs n (m+1) c' R' (C.set k x) S'∧HpS n R' (C.set k x) S'∧Ord (at_ R' (C.set k x)) (m+1)∧∀ q,q∈R'↔q∈R∨q=k)∧Aft G w w':=by
 have hlr:=h.lr;have hn0:=h.n0;have hmn:m≤n:=by rw [←h.lr];exact hp.le
 have f0:=h.f0;have f2:=h.f2;have s0:w.cell? ⟨gs,k,none⟩=some (.int .i64 0):=h.seatAt ((hp.out hk).2 hn);have i1:(0:Int)≤(k:Int):=by omega
 have i2:(k:Int)<(n:Int):=by omega
 have HK:=Zh (Qnp w h k hk);have HE:=Zh (Qdk w x h0 h1);have hbel:Below w.heap.size w (w.alloc (.cells #[.int .i64 (k:Int)] 3)):=(Zr _ _).alloc (Zn _) _;have hal:=h.keep hbel;have hrow:=hal.row;have g0:=hal.f0;have g2:=hal.f2;have hrd:=(Blk.new w 3 #[.int .i64 (k:Int)]).rds (s:=1) (m:=1) rfl;have HPU:=Zh (hp.put (x:=x) hk hn);have HOU:=Zh (ord_put (x:=x) (by rw [h.lr];exact ho) hn);have HH:=Zh h;have hzz:(w.alloc (.cells #[.int .i64 (k:Int)] 3)).frozen? ⟨g,0,none⟩=false:=hal.blk.frozen 0;clear h hp ho hal
 go_enter func101,ntmps101
 go_wp2_with fail
 with_reducible refine HK.out.mono ?_
 rintro e w' ⟨rfl,rfl⟩
 go_wp2_with fail
 with_reducible refine HE.out.mono ?_
 rintro e w' ⟨rfl,rfl⟩;clear HK HE
 go_wp2_with (at_builtin;with_reducible refine Qan rfl (.tmp 26) (.tmp 28) 61 rfl 3 _ 1 8 Qbs underlying61 rfl (by omega) rfl rfl hrow hrd (hp1_one _) (by omega) (by omega) (by simp) ?_)
 intro A' c' w' hown' hg hA;have hb1:Blk w' g 258 #[.slice A m c,.slice (some ⟨gc,0,none⟩) n n,.slice (some ⟨gs,0,none⟩) n n]:=(HH.out.keep hbel).blk.grown hg (fun e=>(HH.out.dA g e).1 rfl);have k0:w'.cell? ⟨g,0,none⟩=some (.slice A m c):=Zq hb1;have kf:w'.frozen? ⟨g,0,none⟩=false:=hb1.frozen 0;obtain ⟨hh1,ha1⟩:=HH.out.push hown' hg (by simpa using hA);have HH1:=Zh hh1;have HA1:=Zh ha1;clear hb1 hh1 ha1 hown' hg hA hrow hrd hbel g0 g2 hzz HH f0 f2 s0
 go_wp2_with fail
 obtain ⟨W1,hW1⟩:∃ W1,W1=w'.setCell ⟨g,0,none⟩ (.slice A' (m+1) c'):=⟨_,rfl⟩;rw [←hW1] at HH1 HA1;rw [←hW1];clear k0 kf hW1;have f0:=HH1.out.f0;have f2:=HH1.out.f2;have hcap:=HH1.out.cap;have s0:=HH1.out.seatAt (i:=k) (Qbp 0 (by rw [HH1.out.ls];exact hk));have fz:W1.frozen? ⟨gs,k,none⟩=false:=HH1.out.ss.frozen k;have hh2:=(HH1.out.setS (i:=k) (k:=m+1)).drew;have HH2:=Zh hh2;have HA2:=Zh ((HA1.out.set HH1.out.dG.2.2 (i:=k) (.int .i64 ((m+1:Nat):Int))).drew);clear hh2;refine Qbm 11 (S:=fun V=>V.cell? ⟨g,0,none⟩=some (.slice A' (m+1) c')∧V.cell? ⟨g,2,none⟩=some (.slice (some ⟨gs,0,none⟩) n n)) (by kernel_rfl) ⟨f0,f2⟩ (fun _=>?_);refine tkF 0 32 (h:=⟨_,tv,?_⟩);simp only [pE,List.set];refine tkF 1 33 (h:=⟨_,tv,?_⟩);simp only [pE,List.set];refine tkF 2 34 (h:=⟨_,tv,?_⟩);simp only [pE,List.set];refine tkK 3 35 (h:=⟨_,tv,?_⟩);simp only [pE,List.set];refine tkF 4 36 (h:=⟨_,tv,?_⟩);simp only [pE,List.set];refine tkF 5 37 (h:=⟨_,tv,?_⟩);simp only [pE,List.set];refine tkF 6 38 (h:=⟨_,tv,?_⟩);simp only [pE,List.set];refine tkF 7 39 (h:=⟨_,tv,?_⟩);simp only [pE,List.set];refine tkK 8 40 (h:=⟨_,tv,?_⟩);simp only [pE,List.set];refine tkF 9 41 (h:=⟨_,tv,?_⟩);simp only [pE,List.set];refine tkF 10 42 (h:=⟨_,tv,?_⟩);simp only [pE,List.set];refine Qcc (k:=11) (by kernel_rfl) rfl (fun K hK=>?_);go_simp;refine hK.out _ _ ?_;clear hK K;refine Qbw (by kernel_rfl) ?_ _;have e2:((m+1:Nat):Int)=(m:Int)+1:=by omega
 rw [e2] at HH2 HA2;have HSK:=Zh (show (S.set k (m+1))[k]?=some (m+1) by rw [Yg (by have:=HH1.out.ls;omega)])
 rw [hlr] at HPU HOU;clear f0 f2 s0 fz HH1 HA1 e2;obtain ⟨W2,hW2⟩:∃ W2,W2=(W1.setCell ⟨gs,k,none⟩ (.int .i64 ((m:Int)+1))).drew:=⟨_,rfl⟩;rw [←hW2] at HH2 HA2;rw [←hW2];clear hW2;obtain ⟨gr,hgr,hfr⟩:=HH2.out.rowBlk (by omega);subst hgr;have f1:=HH2.out.f1;have q0:=HH2.out.costAt (i:=k) (Qbp 0 (by rw [HH2.out.lc];exact hk));have z1:W2.frozen? ⟨gc,k,none⟩=false:=HH2.out.cs.frozen k;have hh3:=HH2.out.setC (i:=k) (x:=x);have HH3:=Zh hh3;have HA3:=Zh (HA2.out.set HH2.out.dG.2.1 (i:=k) (.int .i64 x));have f2:=hh3.f2;have s2:=hh3.seatAt HSK.out;have e7:IntKind.i64.wrap (((m+1:Nat):Int)-1)=(m:Int):=by rw [show ((m+1:Nat):Int)-1=(m:Int) by omega];exact IntWalk.i64_in _ (by omega)
 have HUP:=Zh (Rat _ hh3 HPU.out m (by omega) HOU.out);clear hh3
 go_wp2_with fail
 with_reducible refine HUP.out.mono ?_
 rintro e w3 ⟨rfl,R',S',hw3,hp3,ho3,hk3,ha3⟩;have HW4:=Zh hw3;have HA4:=Zh (HA3.out.trans ha3);have HP4:=Zh hp3;have HO4:=Zh ho3;have HK4:=Zh hk3;clear hw3 ha3 hp3 ho3 hk3
 go_wp2_with fail
 go_ret
 exact ⟨rfl,⟨_,_,R',S',HW4.out,HP4.out,HO4.out,fun q=>by rw [HK4.out q];simp⟩,HA4.out⟩
set_option maxHeartbeats 2000000 in
theorem Qwn (w:World)(h:Qbk w G g A gc gs n m c R C S)(hp:HpS n R C S)(k i:Nat)(hk:k<n) (hi:R[i]?=some k) (x y:Int) (h0:0≤x) (h1:x≤1152921504606846976) (hy:C[k]?=some y) (hxy:y≤x) :
 Calls prog 101 #[.pointer (some ⟨g,0,none⟩),.int .i64 k,.int .i64 x] w fun e w'=>e=.returned (.bool false)∧w=w':=by
 have hn0:=h.n0;have f2:=h.f2;have f1:=h.f1;have e8:((i+1:Nat):Int)≠0:=by omega
 have s0:w.cell? ⟨gs,k,none⟩=some (.int .i64 ((i+1:Nat):Int)):=h.seatAt (hp.seat i k hi).2;have q0:=h.costAt hy;have i1:(0:Int)≤(k:Int):=by omega
 have i2:(k:Int)<(n:Int):=by omega
 have HK:=Zh (Qnp w h k hk);have HE:=Zh (Qdk w x h0 h1);clear h hp
 go_enter func101,ntmps101
 go_wp2_with fail
 with_reducible refine HK.out.mono ?_
 rintro e w' ⟨rfl,rfl⟩
 go_wp2_with fail
 with_reducible refine HE.out.mono ?_
 rintro e w' ⟨rfl,rfl⟩;clear HK HE
 exact Kda
set_option maxHeartbeats 2000000 in
theorem Qvr (w:World)(h:Qbk w G g A gc gs n m c R C S)(hp:HpS n R C S) (ho:Ord (at_ R C) m) (k i:Nat) (hk:k<n) (hi:R[i]?=some k) (x y:Int) (h0:0≤x) (h1:x≤1152921504606846976) (hy:C[k]?=some y) (hxy:x<y) :
 Calls prog 101 #[.pointer (some ⟨g,0,none⟩),.int .i64 k,.int .i64 x] w fun e w'=>e=.returned (.bool true)∧(∃ (A':Option Addr) (c':Nat) (R' S':List Nat),Qbk w' G g A' gc gs n m c' R' (C.set k x) S'∧HpS n R' (C.set k x) S'∧Ord (at_ R' (C.set k x)) m∧∀ q,q∈R'↔q∈R)∧Aft G w w':=by
 have hlr:=h.lr;have hil:=(Zs hi).1;have hmn:m≤n:=by rw [←h.lr];exact hp.le
 have hat:at_ R C i=y:=by unfold at_;rw [Qcp hi];exact Qcp hy
 have hn0:=h.n0;have f2:=h.f2;have f1:=h.f1;have e8:((i+1:Nat):Int)≠0:=by omega
 have s0:w.cell? ⟨gs,k,none⟩=some (.int .i64 ((i+1:Nat):Int)):=h.seatAt (hp.seat i k hi).2;have q0:=h.costAt hy;have i1:(0:Int)≤(k:Int):=by omega
 have i2:(k:Int)<(n:Int):=by omega
 have HK:=Zh (Qnp w h k hk);have HE:=Zh (Qdk w x h0 h1);have HSK:=Zh (hp.seat i k hi).2;have HPU:=Zh (hp.setC (k:=k) (x:=x));have HOU:=Zh (ord_less (x:=x) hp (by rw [h.lr];exact ho) hi (by omega));have HH2:=Zh h;have HA2:=Zh (Aft.refl G w);have hcap:=h.cap;rw [hlr] at HOU;clear h hp ho;clear f1 f2 s0 q0;have s0:w.cell? ⟨gs,k,none⟩=some (.int .i64 ((i+1:Nat):Int)):=HH2.out.seatAt HSK.out;have g2:=HH2.out.f2;obtain ⟨gr,hgr,hfr⟩:=HH2.out.rowBlk (by omega);subst hgr;have f1:=HH2.out.f1;have q0:=HH2.out.costAt (i:=k) (Qbp 0 (by rw [HH2.out.lc];exact hk));have z1:w.frozen? ⟨gc,k,none⟩=false:=HH2.out.cs.frozen k;have hh3:=HH2.out.setC (i:=k) (x:=x);have HH3:=Zh hh3;have HA3:=Zh (HA2.out.set HH2.out.dG.2.1 (i:=k) (.int .i64 x));have f2:=hh3.f2;have s2:=hh3.seatAt HSK.out;have e7:IntKind.i64.wrap (((i+1:Nat):Int)-1)=(i:Int):=by rw [show ((i+1:Nat):Int)-1=(i:Int) by omega];exact IntWalk.i64_in _ (by omega)
 have HUP:=Zh (Rat _ hh3 HPU.out i (by omega) HOU.out);clear hh3;have q1:y=C.getD k 0:=(Qcp hy).symm;rw [←q1] at q0;clear q1
 go_enter func101,ntmps101
 go_wp2_with fail
 with_reducible refine HK.out.mono ?_
 rintro e w' ⟨rfl,rfl⟩
 go_wp2_with fail
 with_reducible refine HE.out.mono ?_
 rintro e w' ⟨rfl,rfl⟩;clear HK HE
 go_wp2_with fail
 with_reducible refine HUP.out.mono ?_
 rintro e w3 ⟨rfl,R',S',hw3,hp3,ho3,hk3,ha3⟩;have HW4:=Zh hw3;have HA4:=Zh (HA3.out.trans ha3);have HP4:=Zh hp3;have HO4:=Zh ho3;have HK4:=Zh hk3;clear hw3 ha3 hp3 ho3 hk3
 go_wp2_with fail
 go_ret
 exact ⟨rfl,⟨_,_,R',S',HW4.out,HP4.out,HO4.out,HK4.out⟩,HA4.out⟩
theorem Qjx (w:World)(hp:Nat→Option Int)(h:Qcu w G g n hp)(k:Nat)(hk:k<n)(x:Int)(h0:0≤x)(h1:x≤1152921504606846976) :
 Calls prog 101 #[.pointer (some ⟨g,0,none⟩),.int .i64 k,.int .i64 x] w fun e w'=>e=.returned (.bool (Qwx hp k x))∧Qcu w' G g n (Qix hp k x)∧Aft G w w':=by
 obtain ⟨A,gc,gs,m,c,R,C,S,hw,hs,ho,hin⟩:=h;have hkc:k<C.length:=by rw [hs.lc];exact hk
 cases hv:hp k with
 | none =>
  have hn:k ∉ R:=inAt_out hs ((hin k).symm.trans hv);refine (Qxt w hw hs ho k hk hn x h0 h1).mono ?_;rintro e w' ⟨rfl,⟨A',c',R',S',k1,k2,k3,k4⟩,ha⟩;refine ⟨by simp [Qwx,hv],⟨A',gc,gs,m+1,c',R',_,S',k1,k2,k3,fun q=>?_⟩,ha⟩;rw [Qum hkc k4];unfold Qix
  by_cases e:q=k
  · rw [if_pos e,if_pos e,hv]
  · rw [if_neg e,if_neg e];exact hin q
 | some y =>
  obtain ⟨hm,hy⟩:=Qzg ((hin k).symm.trans hv);obtain ⟨i,hi,_,_,_⟩:=hs.in_ hm
  by_cases hxy:y≤x
  · refine (Qwn w hw hs k i hk hi x y h0 h1 hy hxy).mono ?_
    rintro e w' ⟨rfl,rfl⟩;refine ⟨by simp [Qwx,hv,hxy],⟨A,gc,gs,m,c,R,C,S,hw,hs,ho,fun q=>?_⟩,Aft.refl _ _⟩;unfold Qix
    by_cases e:q=k
    · rw [if_pos e,hv,e,←hin k,hv]
      simp [hxy]
    · rw [if_neg e];exact hin q
  · refine (Qvr w hw hs ho k i hk hi x y h0 h1 hy (by omega)).mono ?_
    rintro e w' ⟨rfl,⟨A',c',R',S',k1,k2,k3,k4⟩,ha⟩;refine ⟨by simp [Qwx,hv];omega,⟨A',gc,gs,m,c',R',_,S',k1,k2,k3,fun q=>?_⟩,ha⟩;rw [Qum hkc (r:=R) (fun q=>by rw [k4 q];exact ⟨.inl,fun h=>h.elim id (fun e=>e▸hm)⟩)];unfold Qix
    by_cases e:q=k
    · rw [if_pos e,if_pos e,hv];simp [hxy]
    · rw [if_neg e,if_neg e];exact hin q
end
set_option maxHeartbeats 1000000 in
theorem Qxk (A:Option Addr)(n c:Nat)(t:Qcv)(i o:Nat)(w:World)(h:RdI w A n t.costs)(ht:Qhf t) (hi:(i:Int)<t.ins) (ho:(o:Int)<t.outs) :
 Calls prog 132 #[.agg #[.int .i64 t.ins,.int .i64 t.outs,.slice A n c],.int .i64 i,.int .i64 o] w fun e w'=>∃ x,t.costs[i*t.outs.toNat+o]?=some x∧e=.returned (.int .i64 x)∧Below w.heap.size w w':=by
 obtain ⟨p,q,cs⟩:=t;simp only at h hi ho ⊢;have i0:0≤p:=ht.i0;have i16:p≤16:=ht.i16;have o0:0≤q:=ht.o0;have o16:q≤16:=ht.o16;have hm:=Qlf i0 i16 o0 o16;have hl:(cs.length:Int)=p*q:=ht.len
 have hk:(i:Int)*q+o<p*q:=by
  exact Kcq
 have hk0:0≤(i:Int)*q:=Int.mul_nonneg (by omega) o0;obtain ⟨k,hkk⟩:∃ k:Nat,(k:Int)=(i:Int)*q+o:=⟨((i:Int)*q+o).toNat,by omega⟩
 have hke:i*q.toNat+o=k:=by
  exact Kcv
 rw [hke];have hkl:k<n:=by rw [←h.1];omega
 obtain ⟨b,oo,x,hA,hx,hc⟩:=h.at_ hkl;subst hA;have hn:n≤256:=by rw [←h.1];omega
 have HSD:=Zh (fun V=>Qti p q V i0 i16 o0 o16);have e1:IntKind.i64.wrap ((i:Int)*q)=(i:Int)*q:=IntWalk.i64_in _ (by omega);have e2:IntKind.i64.wrap ((i:Int)*q+o)=(k:Int):=by rw [←hkk];exact IntWalk.i64_in _ (by omega)
 have i1:((k:Int))<(n:Int):=by omega
 have HX:=Zh hx;have g1:decide ((i:Int)<0)=false:=by simp
 have g2:decide (p≤(i:Int))=false:=by simp;omega
 have g3:decide ((o:Int)<0)=false:=by simp
 have g4:decide (q≤(o:Int))=false:=by simp;omega
 clear h ht hl hk hkk hke hx hm hk0
 go_enter func132,ntmps132
 have hcA:∀ ob,(w.alloc ob).cell? ⟨b,oo+k,none⟩=some (.int .i64 x):=fun ob=>Zc ((Zr _ w).alloc (Zn _) ob) (Zn _) hc
 go_wp2_with fail
 with_reducible refine (HSD.out _).mono ?_
 rintro e w' ⟨rfl,rfl⟩
 go_wp2_with fail
 go_ret
 exact ⟨x,HX.out,rfl,Qag⟩
theorem gVert_ok (g v:Nat)(N:Qak)(w:World)(h:Qen w g N)(hv:v<N.vs.length):Calls prog 186 #[.pointer (some ⟨g,0,none⟩),.int .i64 v] w fun e w'=>e=.returned (.bool true)∧w=w':=by
 obtain ⟨A,B,C,I,O,P,n,m,k,c,d,e,ci,co,cp,h⟩:=h;have hn0:=h.n0;have hnn:N.vs.length=n:=h.net.1.1;have hlv:=h.ok.lv;have i1:(0:Int)≤(v:Int):=by omega
 have i2:(v:Int)<(n:Int):=by omega
 clear h
 go_enter func186,ntmps186
 go_wp2
 exact Kbd
theorem Quf (g v:Nat)(N:Qak)(w:World)(h:Qen w g N)(hv:v<N.vs.length):Calls prog 153 #[.pointer (some ⟨g,0,none⟩),.int .i64 v] w fun e w'=>∃ A n c,e=.returned (.slice A n c)∧Own w' w.heap.size 3 1 A n c (Qaf (idx (·.1) N.ar (v:Int)))∧Below w.heap.size w w':=by
 obtain ⟨A,B,C,I,O,P,n,m,k,c,d,e,ci,co,cp,h⟩:=h;have hn1:=h.n0;have hn4:=h.n4;have hlv:=h.ok.lv;have hnn:N.vs.length=n:=h.net.1.1;obtain ⟨b,o,A',n',c',l,hO,hl,h1,h2,h3,h4⟩:=h.outs.at_ (i:=v) (by omega);rw [Qdm (by omega)] at hl
 cases hl
 subst hO
 have hn':n'≤16384:=by
  rw [←h2.1];have:=Qep (·.1) N.ar N.ar.length (v:Int);rw [List.take_length] at this;have:=h.ok.la;omega
 have HC:=Zh (Qmb A' n' c' _ w h2.rds (Qao _) (by omega));have HV:=Zh (gVert_ok g v N w ⟨_,_,_,_,_,_,_,_,_,_,_,_,_,_,_,h⟩ hv);have i1:(0:Int)≤(v:Int):=by omega
 have i2:(v:Int)<(n:Int):=by omega
 clear h h2
 go_enter func153,ntmps153
 go_wp2_with fail
 with_reducible refine HV.out.mono ?_
 rintro e w' ⟨rfl,rfl⟩
 go_wp2_with fail
 with_reducible refine HC.out.mono ?_
 rintro e w' ⟨A2,c2,rfl,ho,hb⟩;have HO:=Zh ho;have HB:=Zh hb;clear ho hb
 go_wp2_with fail
 go_ret
 exact ⟨_,_,_,rfl,HO.out,HB.out⟩
def Qaw (N:Qak)(a b:Nat):Int :=
 match N.ar[a]?,N.ar[b]? with
 | some x,some y=>if x.2.1=y.1 then (match N.vs[x.2.1.toNat]? with
  | some v=>(match N.ts[v.2.2.toNat]? with
   | some t=>t.costs.getD ((Qgi N.ar a x).1.toNat*t.outs.toNat+(Qgi N.ar b y).2.toNat) 1152921504606846976
   | none=>1152921504606846976)
  | none=>1152921504606846976) else 1152921504606846976
 | _,_=>1152921504606846976
theorem Qgv {f:Tri→Int}{l:List Tri}{k:Nat}{a:Tri}{v:Int} (h:l[k]?=some a) (hv:f a=v):(idx f (l.take k) v).length<l.countP (fun x=>f x == v):=by
 rw [Qod]
 have h1:(l.take (k+1)).countP (fun x=>f x == v)=(l.take k).countP (fun x=>f x == v)+1:=by
  rw [List.take_add_one,h,List.countP_append];simp [hv]
 have h2:=(List.take_sublist (k+1) l).countP_le (p:=fun x=>f x == v);omega
set_option maxHeartbeats 2000000 in
theorem Qog (g a b:Nat)(N:Qak)(x y:Tri)(w:World)(h:Qen w g N) (hx:N.ar[a]?=some x) (hy:N.ar[b]?=some y) :
 Calls prog 82 #[.pointer (some ⟨g,0,none⟩),.int .i64 a,.int .i64 b] w fun e w'=>e=.returned (.int .i64 (Qaw N a b))∧Below w.heap.size w w':=by
 have hla:=(Zs hx).1;have hlb:=(Zs hy).1;have HA:=Zh (fun V (hV:Below w.heap.size w V)=>Qga g N a V (h.below hV) (by omega) (by omega));have HB:=Zh (fun V (hV:Below w.heap.size w V)=>Qga g N b V (h.below hV) (by omega) (by omega));have hax:=(show Qas N from by obtain ⟨A,B,C,I,O,P,n,m,k,c,d,e,ci,co,cp,h⟩:=h;exact h.ok).arcs x (Zm hx)
 obtain ⟨A,B,C,I,O,P,n,m,k,c,d,e,ci,co,cp,h⟩:=h;have hm:=h.ok.arLe h.net.2.1.1;have hlm:N.ar.length=m:=h.net.2.1.1;have hln:N.vs.length=n:=h.net.1.1;have hn4:=h.ok.lv;obtain ⟨bb,o,x1,x2,x3,rfl,hx',ax,ay,az⟩:=h.net.2.1.at_ (i:=a) (by omega);rw [hx] at hx'
 cases hx'
 obtain ⟨bb',o',y1,y2,y3,e',hy',bx,by_,bz⟩:=h.net.2.1.at_ (i:=b) (by omega)
 cases e'
 rw [hy] at hy'
 cases hy'
 have n1:=h.n1;have i1:(0:Int)≤(a:Int):=by omega
 have i2:(a:Int)<(m:Int):=by omega
 have i3:(0:Int)≤(b:Int):=by omega
 have i4:(b:Int)<(m:Int):=by omega
 have HSX:=Zh (show ∀ V,Below w.heap.size w V→V.cell? ⟨g,1,none⟩=some (.slice (some ⟨bb,o,none⟩) m d)∧V.cell? ⟨bb,o+a*3+1,none⟩=some (.int .i64 x2)∧V.cell? ⟨bb,o+b*3,none⟩=some (.int .i64 y1) from
  fun V hV=>⟨Zc hV (Zn _) n1,Zc hV (Zn _) ay,Zc hV (Zn _) bx⟩)
 have hay:=h.ok.arcs _ (Zm hy);obtain ⟨v,rfl⟩:∃ v:Nat,x2=(v:Int):=⟨x2.toNat,by have:=hax.g0;simp only at this;omega⟩;have hvn:v<n:=by have:=hax.g1;simp only at this;omega
 obtain ⟨b2,o2,v1,v2,v3,hA2,hv,vx,vy,vz⟩:=h.net.1.at_ (i:=v) hvn;subst hA2;have hvo:=h.ok.verts _ (Zm hv);obtain ⟨t,rfl⟩:∃ t:Nat,v3=(t:Int):=⟨v3.toNat,by have:=hvo.t0;simp only at this;omega⟩;have htl:N.ts.length=k:=h.net.2.2.1;have htk:t<k:=by have:=hvo.t1;simp only at this;omega
 obtain ⟨b3,o3,tb,hA3,htb,t0,t1,AT,nT,cT,t2,hrd,hnT,hcT⟩:=h.net.2.2.at_ htk;subst hA3;have hto:=h.ok.tabs tb (Zm htb);have hk:=h.ok.lt;obtain ⟨b4,o4,pa1,pa2,hA4,hpa,pa,pb⟩:=h.plc.at_ (i:=a) (by omega);subst hA4;rw [Qig hx] at hpa;obtain ⟨b4',o4',pb1,pb2,e4,hpb,qa,qb⟩:=h.plc.at_ (i:=b) (by omega)
 cases e4
 rw [Qig hy] at hpb;have n0:=h.n0;have n2:=h.n2;have n5:=h.n5;have hmt:=h.ok.meet v _ tb hv (by simpa using htb);obtain ⟨i,hi⟩:∃ i:Nat,i=(idx (·.2.1) (N.ar.take a) (v:Int)).length:=⟨_,rfl⟩;have hip:(i:Int)<tb.ins:=by rw [←hmt.1,hi];exact_mod_cast Qgv (f:=(·.2.1)) hx rfl
 have hpa1:pa1=(i:Int):=by simp only [Qgi,Option.some.injEq,Prod.mk.injEq] at hpa;rw [hi];exact hpa.1.symm
 subst hpa1;obtain ⟨q,hq⟩:∃ q:Nat,q=(idx (·.1) (N.ar.take b) y1).length:=⟨_,rfl⟩;have hqp:y1=(v:Int)→(q:Int)<tb.outs:=fun e=>by rw [←hmt.2,hq,e];exact_mod_cast Qgv (f:=(·.1)) hy e
 have hpb2:pb2=(q:Int):=by simp only [Qgi,Option.some.injEq,Prod.mk.injEq] at hpb;rw [hq];exact hpb.2.symm
 subst hpb2
 have HTN:=Zh (show ∀ z,y1=(v:Int)→tb.costs[i*tb.outs.toNat+q]?=some z→Qaw N a b=z from fun z e hz=>by
  unfold Qaw;rw [hx,hy];simp only [if_pos e.symm,Yl,hv,htb,Qgi,←hi,←hq];rw [Ya,hz]
  rfl)
 have i5:(0:Int)≤(v:Int):=by omega
 have i6:(v:Int)<(n:Int):=by omega
 have i7:(0:Int)≤(t:Int):=by omega
 have i8:(t:Int)<(k:Int):=by omega
 have HTA:=Zh (fun V (hV:Below w.heap.size w V) (e:y1=(v:Int))=>Qxk AT nT cT tb i q V (hrd.below hV) hto hip (hqp e))
 have HY:=Zh (show ∀ V,Below w.heap.size w V→V.cell? ⟨g,0,none⟩=some (.slice (some ⟨b2,o2,none⟩) n c)∧V.cell? ⟨g,2,none⟩=some (.slice (some ⟨b3,o3,none⟩) k e)∧V.cell? ⟨g,5,none⟩=some (.slice (some ⟨b4,o4,none⟩) m cp) ∧
  V.cell? ⟨b2,o2+v*3,none⟩=some (.int .i64 v1)∧V.cell? ⟨b2,o2+v*3+1,none⟩=some (.int .i64 v2)∧V.cell? ⟨b2,o2+v*3+2,none⟩=some (.int .i64 t) ∧
  V.cell? ⟨b3,o3+t*3,none⟩=some (.int .i64 tb.ins)∧V.cell? ⟨b3,o3+t*3+1,none⟩=some (.int .i64 tb.outs)∧V.cell? ⟨b3,o3+t*3+2,none⟩=some (.slice AT nT cT) ∧
  V.cell? ⟨b4,o4+a*2,none⟩=some (.int .i64 i)∧V.cell? ⟨b4,o4+b*2+1,none⟩=some (.int .i64 q) from
  fun V hV=>⟨Zc hV (Zn _) n0,Zc hV (Zn _) n2,Zc hV (Zn _) n5,Zc hV (Zn _) vx,Zc hV (Zn _) vy,Zc hV (Zn _) vz,Zc hV (Zn _) t0,Zc hV (Zn _) t1,Zc hV (Zn _) t2,Zc hV (Zn _) pa,Zc hV (Zn _) qb⟩)
 clear n0 n2 n5 vx vy vz t0 t1 t2 pa pb qa qb hpa hpb hrd hip hqp hmt hv htb hi hq;clear h n1 ax ay az bx by_ bz
 go_enter func82,ntmps82
 go_wp2_with fail
 refine wp_region_held_drew (S:=fun V=>Below w.heap.size w V) (by kernel_rfl) (Zr _ _).drew (fun _=>?_);refine tz 0 8 ?_;refine tz 1 9 ?_;refine Zk 2 (fun K hK=>?_);go_simp;with_reducible refine (HA.out _ Qag).mono ?_
 rintro e w' ⟨rfl,rfl⟩;go_simp;refine hK.out _ _ Qag (fun _=>?_);clear hK K;refine tz 3 11 ?_;refine tz 4 12 ?_;refine tz 5 13 ?_;refine tz 6 14 ?_;refine Zk 7 (fun K hK=>?_);go_simp;with_reducible refine (HB.out _ Qag).mono ?_
 rintro e w' ⟨rfl,rfl⟩;go_simp;refine hK.out _ _ Qag (fun _=>?_);clear hK K;refine tz 8 16 ?_;refine tz 9 17 ?_;refine tz 10 18 ?_;refine tz 11 19 ?_;refine tz 12 20 ?_;refine tz 13 21 ?_;refine tz 14 22 ?_;refine tz 15 23 ?_;refine tz 16 24 ?_;refine tz 17 25 ?_;refine tz 18 26 ?_;refine tz 19 27 ?_;refine tz 20 28 ?_;refine tz 21 29 ?_;refine tz 22 30 ?_;refine tz 23 31 ?_;refine tz 24 32 ?_;refine tz 25 33 ?_;refine tz 26 34 ?_;refine tz 27 35 ?_;refine tz 28 36 ?_;refine tz 29 37 ?_;refine tz 30 38 ?_;refine Zd ?_
 by_cases hxy:(v:Int)=y1
 · have e1:((v:Int) != y1)=false:=by simp [hxy]
   subst hxy;have HSX1:=HSX;clear HSX;have HSX:=Zh (fun V hV=>And.intro (HSX1.out V hV) (HY.out V hV))
   go_wp2_with fail
   refine wp_region_held_drew (S:=fun V=>Below w.heap.size w V) (by kernel_rfl) (Zr _ _).drew.drew (fun _=>?_);refine tz 0 39 ?_;refine tz 1 40 ?_;refine tz 2 41 ?_;refine tz 3 42 ?_;refine tz 4 43 ?_;refine tz 5 44 ?_;refine tz 6 45 ?_;refine tz 7 46 ?_;refine tz 8 47 ?_;refine tz 9 48 ?_;refine tz 10 49 ?_;refine tz 11 50 ?_;refine tz 12 51 ?_;refine tz 13 52 ?_;refine tz 14 53 ?_;refine tz 15 54 ?_;refine Zk 16 (fun K hK=>?_);go_simp;refine hK.out _ _ Qag (fun _=>?_);clear hK K;refine Zk 17 (fun K hK=>?_);go_simp;refine hK.out _ _ Qag (fun _=>?_);clear hK K;refine Zd ?_;obtain ⟨W2,hW2⟩:∃ W2,W2=(w.alloc (.cells #[.int .i64 v1,.int .i64 v2,.int .i64 (t:Int)] 243)).drew.drew:=⟨_,rfl⟩;have hb2:Below w.heap.size w W2:=by rw [hW2];exact Qag
   have hbl:Blk W2 w.heap.size 243 #[.int .i64 v1,.int .i64 v2,.int .i64 (t:Int)]:=by rw [hW2];exact Qay
   have c2:W2.cell? ⟨w.heap.size,2,none⟩=some (.int .i64 (t:Int)):=Zq hbl;have hlt:=hbl.lt;rw [←hW2];have HSX2:=HSX;clear HSX hbl hW2 HY HSX1;have HSX:=Zh (fun V (hV:Below w.heap.size w V∧V.cell? ⟨w.heap.size,2,none⟩=some (.int .i64 (t:Int)))=>And.intro hV.2 (HSX2.out V hV.1))
   go_wp2_with fail
   refine wp_region_held_drew (S:=fun V=>Below w.heap.size w V∧V.cell? ⟨w.heap.size,2,none⟩=some (.int .i64 (t:Int))) (by kernel_rfl) ⟨hb2.drew,c2⟩ (fun hS0=>?_);refine tz 0 55 ?_;refine tz 1 56 ?_;refine tz 2 57 ?_;refine tz 3 58 ?_;refine tz 4 59 ?_;refine tz 5 60 ?_;refine tz 6 61 ?_;refine tz 7 62 ?_;refine tz 8 63 ?_;refine tz 9 64 ?_;refine tz 10 65 ?_;refine tz 11 66 ?_;refine tz 12 67 ?_;refine tz 13 68 ?_;refine tz 14 69 ?_;refine tz 15 70 ?_;refine tz 16 71 ?_;refine tz 17 72 ?_;refine tz 18 73 ?_;refine tz 19 74 ?_;refine tz 20 75 ?_;refine tz 21 76 ?_;refine tz 22 77 ?_;refine tz 23 78 ?_;refine tz 24 79 ?_;refine Zk 25 (fun K hK=>?_);go_simp;with_reducible refine (HTA.out _ hS0.1 trivial).mono ?_
   rintro e w' ⟨z,hz,rfl,hb'⟩;have hb3:Below w.heap.size w w':=hS0.1.trans (hb'.mono hS0.1.size);have c3:w'.cell? ⟨w.heap.size,2,none⟩=some (.int .i64 (t:Int)):=Zc hb' (Zn _) c2;have HZ:=Zh (HTN.out z trivial hz);clear hz;go_simp;refine hK.out _ _ ⟨hb3,c3⟩ (fun _=>?_);clear hK K;refine tz 26 6 ?_;refine Zd ?_
   go_wp2_with fail
   go_ret
   rw [HZ.out];exact ⟨rfl,hb3⟩
 · have e1:((v:Int) != y1)=true:=by simp [hxy]
   go_wp2_with fail
   go_ret
   exact ⟨by rw [show Qaw N a b=1152921504606846976 by unfold Qaw;rw [hx,hy];simp [hxy]];rfl,Qag⟩
theorem Qbx (A B C:Option Addr)(n m k c d e:Nat)(a:Int)(w:World)(h0:0≤a)(h1:a<m) :
 Calls prog 10 #[.agg #[.slice A n c,.slice B m d,.slice C k e],.int .i64 a] w fun r w'=>r=.returned (.bool true)∧Below w.heap.size w w':=by
 go_enter func10,ntmps10
 exact Kaz
theorem idx_at {f:Tri→Int}{l:List Tri}{k:Nat}{y:Tri} (h:l[k]?=some y):∀ j,k<j→j≤l.length→(idx f (l.take j) (f y))[(idx f (l.take k) (f y)).length]?=some (k:Int):=by
 intro j
 induction j with
 | zero=>intro h1;omega
 | succ j ih =>
  intro h1 h2;obtain ⟨z,hz⟩:∃ z,l[j]?=some z:=⟨_,Zg (by omega)⟩;rw [Qeo hz]
  by_cases e:k=j
  · subst e
    rw [h] at hz
    cases hz
    rw [Yb (Zn _),Yy];simp
  · have:=ih (by omega) (by omega)
    rw [Yc (Zs this).1];exact this
theorem Qry {f:Tri→Int}{l:List Tri}{k:Nat}{y:Tri} (h:l[k]?=some y):plI (idx f l (f y)) (k:Int)=((idx f (l.take k) (f y)).length:Nat):=by
 have hk:=(Zs h).1;have h1:=idx_at (f:=f) h l.length hk (Zn _);rw [List.take_length] at h1;refine Qok h1 (fun j x hj hx=>?_);have hs:=Qnd f (f y) l;rw [List.pairwise_iff_getElem] at hs;obtain ⟨p1,e1⟩:=Zs hx;obtain ⟨p2,e2⟩:=Zs h1;have:=hs j _ p1 p2 hj;omega
set_option maxHeartbeats 1000000 in
theorem Qjh (A:Option Addr)(n c:Nat)(t:Qcv)(i o:Nat)(w:World)(h:RdI w A n t.costs)(ht:Qhf t) (hi:(i:Int)<t.ins) (ho:(o:Int)<t.outs) :
 Calls prog 52 #[.agg #[.int .i64 t.ins,.int .i64 t.outs,.slice A n c],.int .i64 i,.int .i64 o] w fun e w'=>∃ x,t.costs[i*t.outs.toNat+o]?=some x∧e=.returned (.int .i64 x)∧Below w.heap.size w w':=by
 obtain ⟨p,q,cs⟩:=t;simp only at h hi ho ⊢;have i0:0≤p:=ht.i0;have i16:p≤16:=ht.i16;have o0:0≤q:=ht.o0;have o16:q≤16:=ht.o16;have hm:=Qlf i0 i16 o0 o16;have hl:(cs.length:Int)=p*q:=ht.len
 have hk:(i:Int)*q+o<p*q:=by
  exact Kcq
 have hk0:0≤(i:Int)*q:=Int.mul_nonneg (by omega) o0;obtain ⟨k,hkk⟩:∃ k:Nat,(k:Int)=(i:Int)*q+o:=⟨((i:Int)*q+o).toNat,by omega⟩
 have hke:i*q.toNat+o=k:=by
  exact Kcv
 rw [hke];have hkl:k<n:=by rw [←h.1];omega
 obtain ⟨b,oo,x,hA,hx,hc⟩:=h.at_ hkl;subst hA;have e1:IntKind.i64.wrap ((i:Int)*q)=(i:Int)*q:=IntWalk.i64_in _ (by omega);have e2:IntKind.i64.wrap ((i:Int)*q+o)=(k:Int):=by rw [←hkk];exact IntWalk.i64_in _ (by omega)
 have i1:((k:Int))<(n:Int):=by omega
 have i2:¬(p≤(i:Int)):=by omega
 have i3:¬(q≤(o:Int)):=by omega
 have i4:¬((i:Int)<0):=by omega
 have i5:¬((o:Int)<0):=by omega
 have HX:=Zh hx;have hb:=Qah hc;simp only at hb;clear hx hk hm hl hkk hke h ht
 go_enter func52,ntmps52
 go_wp2_with fail
 go_ret
 exact ⟨x,HX.out,rfl,Qag⟩
theorem RdW.keepB {w w':World}{A:Option Addr}{n:Nat} {l:List (ByteArray×Int)} (h:RdW w A n l) (hk:∀ b,Qac A=some b→w'.heap[b]?=w.heap[b]?):RdW w' A n l :=
 ⟨h.1,fun i x hx=>by
  obtain ⟨b,o,e,h1,h2⟩:=h.2 i x hx;have hb:=hk b (by rw [e];rfl);exact ⟨b,o,e,Qcb hb h1,Qcb hb h2⟩⟩
theorem RdW.setFar {W:World}{A:Option Addr}{n:Nat} {l:List (ByteArray×Int)} (h:RdW W A n l) (g i:Nat) (v:Value) (hne:∀ b,Qac A=some b→b≠g∧b<W.heap.size):RdW (W.setCell ⟨g,i,none⟩ v) A n l :=
 h.keepB (fun b e=>(Qbb.set W g i v (G:=fun b=>b≠g) (fun h=>h rfl)) b (hne b e).1 (hne b e).2)
theorem Qfo (s:ByteArray)(k c:Int)(w:World):Calls prog 27 #[.string s,.int .i64 k,.int .i64 c] w fun e w'=>∃ A n m,e=.returned (.agg #[.slice A n m,.int .i64 c])∧RdW w' A n [(s,k)]∧(∀ b,Qac A=some b→w.heap.size≤b∧b<w'.heap.size)∧n≤1000000∧Below w.heap.size w w':=by
 go_enter func27,ntmps27
 go_wp2
 refine bodyPost_ret (v:=.agg #[.slice (some ⟨w.heap.size+1,0,none⟩) 1 1,.int .i64 c]) (by simp [results,results27,go_sem]) rfl ?_;refine ⟨_,1,1,rfl,⟨rfl,fun i x hx=>?_⟩,fun b e=>?_,by omega,Qag⟩
 · match i,hx with
   | 0,hx=>cases hx;exact ⟨_,_,rfl,by simp,by simp⟩
   | i+1,hx=>simp at hx
 · have e:w.heap.size+1=b:=Yv e
   subst e;exact ⟨by omega,by simp⟩
theorem Qeh (A B C:Option Addr)(n m k c d e:Nat)(a:Int)(w:World) (h1:¬(0≤a∧a<m)) :
 Calls prog 10 #[.agg #[.slice A n c,.slice B m d,.slice C k e],.int .i64 a] w fun r w'=>r=.returned (.bool false)∧Below w.heap.size w w':=by
 by_cases h0:0≤a
 · have h2:¬a<m:=by omega
   clear h1
   go_enter func10,ntmps10
   exact Kaz
 · clear h1
   go_enter func10,ntmps10
   exact Kaz
def Qbo (G:Nat→Prop)(V W:World):Prop:=Qbb G V W∧V.heap.size≤W.heap.size
theorem Qbo.refl (G:Nat→Prop)(V:World):Qbo G V V:=⟨Qbb.refl _ _,Zn _⟩
theorem Qbo.set {G:Nat→Prop}{V W:World}(h:Qbo G V W){g:Nat}(hg:¬G g)(i:Nat)(v:Value):Qbo G V (W.setCell ⟨g,i,none⟩ v):=⟨h.1.trans (Qbb.set W g i v hg) h.2,Yx h.2 (by simp [World.setCell])⟩
set_option maxHeartbeats 1000000 in
theorem Qvz (A:Option Addr)(n c p q i o:Nat)(cs:List Int)(u:Int)(w:World)(h:RdI w A n cs)(ht:Qhf ⟨p,q,cs⟩)(hi:i<p)(ho:o<q)(hu:wOk u=true) :
 Calls prog 96 #[.agg #[.int .i64 p,.int .i64 q,.slice A n c],.int .i64 i,.int .i64 o,.int .i64 u] w fun e w'=>∃ A' c',e=.returned (.tuple #[.agg #[.int .i64 p,.int .i64 q,.slice A' n c'],.agg #[.slice none 0 0,.int .i64 0]])∧Own w' w.heap.size 2 1 A' n c' (Qaf (cs.set (i*q+o) u))∧Below w.heap.size w w':=by
 have hlen:(n:Int)=(p:Int)*(q:Int):=by have:=ht.len;simp only at this;rw [h.1] at this;exact this
 have hkn:=Ram hlen hi ho;have hm:=Qlf ht.i0 ht.i16 ht.o0 ht.o16;simp only at hm;have hn:n≤256:=by omega
 have HR:=Zh (fun (V:World) (hV:Below w.heap.size w V)=>(h.below hV).rdsI)
 have HW:=Zh (show ∀ V,Calls prog 91 #[.int .i64 u] V fun e w'=>e=.returned (.bool true)∧V=w' from fun V=>by
  have:=Qci u V;rw [hu] at this;exact this)
 have hq16:q≤16:=by have:=ht.o16;simp only at this;omega
 have hp16:p≤16:=by have:=ht.i16;simp only at this;omega
 obtain ⟨k0,hk0⟩:∃ k0,k0=i*q:=⟨_,rfl⟩;obtain ⟨k,hk⟩:∃ k,k=i*q+o:=⟨_,rfl⟩;rw [←hk] at hkn;have m1:(i:Int)*(q:Int)=(k0:Int):=by rw [hk0];simp
 have m2:(k0:Int)+(o:Int)=(k:Int):=by omega
 have wk0:IntKind.i64.wrap (k0:Int)=(k0:Int):=IntWalk.i64_in _ (by omega);have wk:IntKind.i64.wrap (k:Int)=(k:Int):=IntWalk.i64_in _ (by omega);have i1:¬((i:Int)<0):=by omega
 have i2:¬((p:Int)≤(i:Int)):=by omega
 have i3:¬((o:Int)<0):=by omega
 have i4:¬((q:Int)≤(o:Int)):=by omega
 have i5:(0:Int)≤(k:Int):=by omega
 have i6:(k:Int)<(n:Int):=by omega
 rw [←hk];have HKN:=Zh hkn;clear h ht hu hlen hm hk0 hk hkn hi ho hq16 hp16
 go_enter func96,ntmps96
 go_wp2_with fail
 (refine Qab ?_;intro w1 hw1)
 have hb1:Below w.heap.size w w1:=by rw [hw1];exact Qag
 have hT1:Blk w1 w.heap.size 122 #[.int .i64 p,.int .i64 q,.slice A n c]:=by rw [hw1];exact Qay
 have hR1:Blk w1 (w.heap.size+1) 122 #[.int .i64 0,.int .i64 0,.slice none 0 0]:=by rw [hw1];exact Qay
 have hX1:Blk w1 (w.heap.size+1+1) 66 #[.slice none 0 0,.int .i64 0]:=by rw [hw1];exact Qay
 have hz1:w.heap.size+3≤w1.heap.size:=by rw [hw1];simp
 clear hw1;with_reducible refine (HW.out _).mono ?_
 rintro r w' ⟨rfl,rfl⟩;obtain ⟨t0,t1,t2⟩:=hT1.three;have zT:=hT1.lt;have hown0:Own (w1.alloc (.cells #[] 2)) w1.heap.size 2 1 (some ⟨w1.heap.size,0,none⟩) 0 0 []:=Own.lit w1 #[] 0 (Zn _) (by omega) rfl;have hba:Below w1.heap.size w1 (w1.alloc (.cells #[] 2)):=(Zr _ _).alloc (Zn _) _;have hra:=HR.out _ (Zb hb1 hba)
 go_wp2_with (at_builtin;with_reducible refine Qan rfl (.tmp 39) (.tmp 41) 36 rfl 2 _ 1 8 Qhk underlying36 rfl (by omega) (B:=w1.heap.size) rfl rfl hown0 hra (Qao _) (by omega) (by omega) (by simp) ?_)
 intro A' c' w2 hown hg _;have hb2:Below w1.heap.size w1 w2:=Zo hba hg hown0 (by simp)
 try simp only [Yz,List.nil_append] at hown
 have hown:=hown.mono hz1;clear hown0 hba hra hg t0 t1 t2 zT;have hb2':=Zb hb1 hb2;have hT2:=hT1.below hb2 hT1.lt;have hR2:=hR1.below hb2 hR1.lt;have hX2:=hX1.below hb2 hX1.lt;clear hT1 hR1 hX1 hb1 hb2;obtain ⟨gb,cur,rfl,hg0,hgb,_,hcz,hcu⟩:=hown.block (by have:=HKN.out;omega);obtain ⟨t0,t1,t2⟩:=hT2.three;have ne1:¬gb=w.heap.size:=by omega
 have ne2:¬w.heap.size=gb:=by omega
 obtain ⟨v0,hv0⟩:∃ v0,cur[k]?=some v0:=⟨_,Array.getElem?_eq_getElem (by have:=HKN.out;omega)⟩;have ck:w2.cell? ⟨gb,k,none⟩=some v0:=by rw [hgb.cell];exact hv0
 have fk:=hgb.frozen k;obtain ⟨r0,r1,r2⟩:=hR2.three;have fr0:=hR2.frozen 0;have fr1:=hR2.frozen 1;have fr2:=hR2.frozen 2;obtain ⟨x0,x1,fx0,fx1⟩:=hX2.two;have HO:=Zh (hown.setAt (k:=k) (.int .i64 u));clear hown hgb hcz hcu hv0
 go_wp2_with fail
 refine bodyPost_ret (v:=.tuple #[.agg #[.int .i64 p,.int .i64 q,.slice (some ⟨gb,0,none⟩) n c'],.agg #[.slice none 0 0,.int .i64 0]]) (by simp [results,results96,go_sem,r0,r1,r2,x0,x1]) rfl ?_;refine ⟨_,_,rfl,?_,(((((hb2'.setCell (by simp only;omega) _).setCell (by simp only;omega) _).setCell (by simp only;omega) _).setCell (by simp only;omega) _).setCell (by simp only;omega) _).setCell (by simp only;omega) _⟩;have h1:=HO.out;rw [Yz,Qji] at h1;exact Own.mono (ownsRow_setCell_below (ownsRow_setCell_below (ownsRow_setCell_below (ownsRow_setCell_below (ownsRow_setCell_below h1 (a:=⟨w.heap.size+1,0,none⟩) (by simp only;omega) _) (a:=⟨w.heap.size+1,1,none⟩) (by simp only;omega) _) (a:=⟨w.heap.size+1,2,none⟩) (by simp only;omega) _) (a:=⟨w.heap.size+1+1,0,none⟩) (by simp only;omega) _) (a:=⟨w.heap.size+1+1,1,none⟩) (by simp only;omega) _) (by omega)
set_option maxHeartbeats 1000000 in
theorem Qus (A:Option Addr)(n c:Nat)(p q i o u x y:Int)(w:World) (h:Qff p q i o u=some (x,y)) :
 Calls prog 96 #[.agg #[.int .i64 p,.int .i64 q,.slice A n c],.int .i64 i,.int .i64 o,.int .i64 u] w fun e w'=>∃ A' n' c',e=.returned (.tuple #[.agg #[.int .i64 0,.int .i64 0,.slice none 0 0],.agg #[.slice A' n' c',.int .i64 y]])∧RdW w' A' n' [((⟨#[116,117,114,110]⟩:ByteArray),x)]∧n'≤1000000∧Below w.heap.size w w':=by
 unfold Qff at h
 by_cases i1:i<0
 · rw [if_pos (.inl i1)] at h
   exact Kad
 by_cases i2:p≤i
 · rw [if_pos (.inr i2)] at h
   exact Kad
 rw [if_neg (by omega)] at h
 by_cases o1:o<0
 · rw [if_pos (.inl o1)] at h
   exact Kad
 by_cases o2:q≤o
 · rw [if_pos (.inr o2)] at h
   exact Kad
 rw [if_neg (by omega)] at h
 cases hu:wOk u
 · rw [if_pos hu] at h
   cases h
   have HW:=Zh (show ∀ V,Calls prog 91 #[.int .i64 u] V fun e w'=>e=.returned (.bool false)∧V=w' from fun V=>by
    have:=Qci u V;rw [hu] at this;exact this)
   clear hu
   go_enter func96,ntmps96
   go_wp2_with fail
   with_reducible refine (HW.out _).mono ?_
   rintro r w' ⟨rfl,rfl⟩
   go_wp2_with fail
   (refine Qab ?_;intro w1 hw1)
   have hb1:Below w.heap.size w w1:=by rw [hw1];exact Qag
   have hR1:Blk w1 (w.heap.size+1) 122 #[.int .i64 0,.int .i64 0,.slice none 0 0]:=by rw [hw1];exact Qay
   have hX1:Blk w1 (w.heap.size+1+1) 66 #[.slice none 0 0,.int .i64 0]:=by rw [hw1];exact Qay
   have hz1:w.heap.size+3≤w1.heap.size:=by rw [hw1];simp
   clear hw1;with_reducible refine (Qfo _ _ _ _).mono ?_
   rintro r w2 ⟨A4,n4,m4,rfl,h4,hA4,h5,hb⟩;have hb2:=Zb hb1 hb;have hR2:=hR1.below hb hR1.lt;have hX2:=hX1.below hb hX1.lt;clear hb hR1 hX1 hb1;obtain ⟨r0,r1,r2⟩:=hR2.three;have fr0:=hR2.frozen 0;have fr1:=hR2.frozen 1;have fr2:=hR2.frozen 2;obtain ⟨x0,x1,fx0,fx1⟩:=hX2.two
   have HRW:=Zh (show RdW (((((w2.setCell ⟨w.heap.size+1,0,none⟩ (.int .i64 0)).setCell ⟨w.heap.size+1,1,none⟩ (.int .i64 0)).setCell ⟨w.heap.size+1,2,none⟩ (.slice none 0 0)).setCell ⟨w.heap.size+1+1,0,none⟩ (.slice A4 n4 m4)).setCell ⟨w.heap.size+1+1,1,none⟩ (.int .i64 8)) A4 n4 _ from
    RdW.keepB h4 (fun b hb=>(((((Qbo.refl (fun x=>w1.heap.size≤x) w2).set (by omega) _ _).set (by omega) _ _).set (by omega) _ _).set (by omega) _ _).set (by omega) _ _ |>.1 b (hA4 b hb).1 (hA4 b hb).2))
   clear h4
   go_wp2_with fail
   refine bodyPost_ret (v:=.tuple #[.agg #[.int .i64 0,.int .i64 0,.slice none 0 0],.agg #[.slice A4 n4 m4,.int .i64 8]]) (by simp [results,results96,go_sem,r0,r1,r2,x0,x1]) rfl ?_;exact ⟨_,_,_,rfl,HRW.out,h5,((((hb2.setCell (by simp only;omega) _).setCell (by simp only;omega) _).setCell (by simp only;omega) _).setCell (by simp only;omega) _).setCell (by simp only;omega) _⟩
 · rw [if_neg (by rw [hu];simp)] at h
   cases h
theorem Qbu {P:Program}{f:Func}{Q:Ending→World→Prop}{x:Exit}{a:Act}{w:World}(h:∀ W,W=w→bodyPost P f Q x a W):bodyPost P f Q x a w:=h w rfl
theorem Qkx {x y z:Int}(u:Int):∀ {l:List Tri} {a:Nat},l[a]?=some (x,y,z)→(Qap l).set (a*3+2) (.int .i64 u)=Qap (l.set a (x,y,u))
 | [],a,h=>by simp at h
 | p::t,0,h=>by simp at h;subst h;simp [Qap]
 | p::t,a+1,h=>by
  have:=Qkx u (l:=t) (a:=a) (by simpa using h);rw [show (a+1)*3+2=(a*3+2)+1+1+1 by omega]
  simp [Qap,this]
theorem Qua.mskd {W:World}{G:Nat→Prop}{A:Option Addr}{n:Nat}{l:List Qcv} (h:Qua W (msk W G) A n l) (hg:∀ b,Qac A=some b→G b):RdY (msk W G) A n l :=
 ⟨h.1,fun i t ht=>by
  obtain ⟨b,o,e,h1,h2,A',n',c',h3,h4,h5⟩:=h.2 i t ht;have hb:=hg b (by rw [e];rfl);exact ⟨b,o,e,Qal.2 ⟨hb,h1⟩,Qal.2 ⟨hb,h2⟩,A',n',c',Qal.2 ⟨hb,h3⟩,h4,h5⟩⟩
theorem YwR.rdY2 {W:World}{B n c:Nat}{A:Option Addr}{xs:List Value}{ls:List Qcv}(h:YwR W B A n c xs ls){G:Nat→Prop}(hG:∀ b,B≤b→Qac A≠some b→G b):Qua W (msk W G) A n ls :=
 ⟨h.2.1,fun i t ht=>by
  obtain ⟨A2,n2,c2,h1,h2,h3,h4,h7,h5,h6⟩:=h.2.2 i t ht;obtain ⟨b,o,e,k1⟩:=h.1.rds.2 _ _ h1;obtain ⟨b',o',e',k2⟩:=h.1.rds.2 _ _ h2;rw [e] at e';cases e'
  obtain ⟨b',o',e',k3⟩:=h.1.rds.2 _ _ h3;rw [e] at e';cases e'
  exact ⟨b,o,e,k1,by rw [Nat.add_assoc];exact k2,A2,n2,c2,by rw [Nat.add_assoc];exact k3,h4.msk (fun g hg=>hG g (h7 g hg).1 (h7 g hg).2.2),h5,h6⟩⟩
theorem Le.alloc (W:World)(o:Obj):Le W (W.alloc o):=Le.below ((Zr _ _).alloc (Zn _) o)
theorem Qlq {W W':World}{G G':Nat→Prop}(h:∀ b,G b→G' b)(hl:Le W W'):Le (msk W G) (msk W' G'):=fun a v hc=>by
 obtain ⟨h1,h2⟩:=Qal.1 hc;exact Qal.2 ⟨h _ h1,hl _ _ h2⟩
theorem Raj {w3:World}{z B gb n m k c' d' e' K a:Nat}{A' C':Option Addr}{xs:List Value}{N:Qak}{x y r:Int}{x1 x2 x3 x4 x5:Value}(hz:z+3≤B)(hK:B≤K)
 (hV:Own w3 B 124 3 A' n c' (Qap N.vs)) (hA:Own w3 B 119 3 (some ⟨gb,0,none⟩) m d' (Qap N.ar)) (hY:YwR w3 K C' k e' xs N.ts)
 (hd:∀ g,Qac A'=some g→Qac (some ⟨gb,0,none⟩)≠some g) (hAK:∀ g,Qac (some ⟨gb,0,none⟩)=some g→g<K) (ha:N.ar[a]?=some (x,y,r)) (u:Int) :
 Qbg (msk ((((((w3.setCell ⟨gb,a*3+2,none⟩ (.int .i64 u)).setCell ⟨z+1,0,none⟩ x1).setCell ⟨z+1,1,none⟩ x2).setCell ⟨z+1,2,none⟩ x3).setCell ⟨z+1+1,0,none⟩ x4).setCell ⟨z+1+1,1,none⟩ x5) (fun b=>z≤b)) A' (some ⟨gb,0,none⟩) C' n m k (N.setW a x y u):=by
 have hgB:B≤gb:=(hA.lt gb rfl).1;have hgK:gb<K:=hAK gb rfl
 have hV1:Own (w3.setCell ⟨gb,a*3+2,none⟩ (.int .i64 u)) B 124 3 A' n c' (Qap N.vs):=hV.far (Qaa _ _ _ _) (.inr (fun e=>hd gb e rfl));have hA1:=hA.setAt (k:=a*3+2) (.int .i64 u);rw [Yz,Qkx u ha] at hA1;have hY1:=hY.far (Qaa w3 gb (a*3+2) (.int .i64 u)) hgK;have hY5:=((((hY1.far (Qaa _ (z+1) 0 x1) (by omega)).far (Qaa _ (z+1) 1 x2) (by omega)).far (Qaa _ (z+1) 2 x3) (by omega)).far (Qaa _ (z+1+1) 0 x4) (by omega)).far (Qaa _ (z+1+1) 1 x5) (by omega);have hV5:=((((hV1.far (Qaa _ (z+1) 0 x1) (.inr (hV1.ne (by omega)))).far (Qaa _ (z+1) 1 x2) (.inr (hV1.ne (by omega)))).far (Qaa _ (z+1) 2 x3) (.inr (hV1.ne (by omega)))).far (Qaa _ (z+1+1) 0 x4) (.inr (hV1.ne (by omega)))).far (Qaa _ (z+1+1) 1 x5) (.inr (hV1.ne (by omega)));have hA5:=((((hA1.far (Qaa _ (z+1) 0 x1) (.inr (hA1.ne (by omega)))).far (Qaa _ (z+1) 1 x2) (.inr (hA1.ne (by omega)))).far (Qaa _ (z+1) 2 x3) (.inr (hA1.ne (by omega)))).far (Qaa _ (z+1+1) 0 x4) (.inr (hA1.ne (by omega)))).far (Qaa _ (z+1+1) 1 x5) (.inr (hA1.ne (by omega)));refine ⟨(Rds.rd3 hV5.rds).msk (fun b e=>?_),(Rds.rd3 hA5.rds).msk (fun b e=>?_),(hY5.rdY2 (fun b hb _=>?_)).mskd (fun b e=>?_)⟩
 · have:=(hV5.lt b e).1;omega
 · have:=(hA5.lt b e).1;omega
 · omega
 · have:=(hY5.1.lt b e).1;omega
set_option maxHeartbeats 1000000 in
theorem Qxy (A B C:Option Addr)(n m k c d e a:Nat)(x y z u:Int)(N:Qak)(w:World)(h:Qbg w A B C n m k N)(hn:n≤1000000)(hm:m≤1000000)(hk:k≤1000000)(hc:∀ t∈N.ts,t.costs.length≤1000000) (ha:N.ar[a]?=some (x,y,z)) (hu:wOk u=true) :
 Calls prog 41 #[.agg #[.slice A n c,.slice B m d,.slice C k e],.int .i64 a,.int .i64 u] w fun r w'=>∃ A' B' C' c' d' e',r=.returned (.tuple #[.agg #[.slice A' n c',.slice B' m d',.slice C' k e'],.agg #[.slice none 0 0,.int .i64 0]])∧Qbg (msk w' (fun b=>w.heap.size≤b)) A' B' C' n m k (N.setW a x y u)∧Below w.heap.size w w':=by
 have hla:=(Zs ha).1;have ham:a<m:=by rw [h.2.1.1] at hla;exact hla
 have HT:=Zh (fun (V:World)=>Qbx A B C n m k c d e (a:Int) V (by omega) (by omega));have HCN:=Zh (fun (V:World) (hV:Below w.heap.size w V)=>Qlc A B C n m k c d e N V (h.below hV) hn hm hk hc)
 have HW:=Zh (show ∀ V,Calls prog 91 #[.int .i64 u] V fun e w'=>e=.returned (.bool true)∧V=w' from fun V=>by
  have:=Qci u V;rw [hu] at this;exact this)
 have HAR:=Zh ha;have i1:(0:Int)≤(a:Int):=by omega
 have i2:(a:Int)<(m:Int):=by omega
 clear h hn hm hk hc ha hu hla
 go_enter func41,ntmps41
 go_wp2_with fail
 (refine Qab ?_;intro w1 hw1)
 have hb1:Below w.heap.size w w1:=by rw [hw1];exact Qag
 have hJ1:Blk w1 w.heap.size 26 #[.slice A n c,.slice B m d,.slice C k e]:=by rw [hw1];exact Qay
 have hR1:Blk w1 (w.heap.size+1) 26 #[.slice none 0 0,.slice none 0 0,.slice none 0 0]:=by rw [hw1];exact Qay
 have hX1:Blk w1 (w.heap.size+1+1) 66 #[.slice none 0 0,.int .i64 0]:=by rw [hw1];exact Qay
 have hz1:w.heap.size+3≤w1.heap.size:=by rw [hw1];simp
 clear hw1;with_reducible refine (HT.out w1).mono ?_
 rintro r w2 ⟨rfl,hb2⟩;have hb2':=Zb hb1 hb2;have hJ2:=hJ1.below hb2 hJ1.lt;have hR2:=hR1.below hb2 hR1.lt;have hX2:=hX1.below hb2 hX1.lt;have hz2:=Yx hz1 hb2.size;clear hb1 hb2 hJ1 hR1 hX1 hz1
 go_wp2_with fail
 with_reducible refine (HW.out _).mono ?_
 rintro r w' ⟨rfl,rfl⟩;obtain ⟨j0,j1,j2⟩:=hJ2.three
 go_wp2_with fail
 with_reducible refine (HCN.out w2 hb2').mono ?_
 rintro r w3 ⟨A',B',C',c',d',e',K,xs,rfl,hK,hV,hA,hY,hdj,hVK,hAK,hb3⟩;have hb3':=Zb hb2' hb3;have hR3:=hR2.below hb3 hR2.lt;have hX3:=hX2.below hb3 hX2.lt;have hz3:=Yx hz2 hb3.size;clear hJ2 hR2 hX2 hb3 j0 j1 j2 HCN HT;obtain ⟨gb,cur,rfl,hg0,hgb,_,hcz,hcu⟩:=hA.block (by omega);obtain ⟨v0,hv0⟩:∃ v0,cur[a*3+2]?=some v0:=⟨_,Array.getElem?_eq_getElem (by omega)⟩;have ck:w3.cell? ⟨gb,a*3+2,none⟩=some v0:=by rw [hgb.cell];exact hv0
 have fk:=hgb.frozen (a*3+2);have hgl:=hgb.lt;have zR:=hR3.lt;have zX:=hX3.lt;obtain ⟨r0,r1,r2⟩:=hR3.three;have fr0:=hR3.frozen 0;have fr1:=hR3.frozen 1;have fr2:=hR3.frozen 2;obtain ⟨x0,x1,fx0,fx1⟩:=hX3.two;have ne1:¬gb=w.heap.size+1:=by omega
 have ne2:¬gb=w.heap.size+1+1:=by omega
 have ne3:¬w.heap.size+1=gb:=by omega
 have ne4:¬w.heap.size+1+1=gb:=by omega
 have ne5:¬gb=w3.heap.size:=by omega
 have HV:=Zh hV;have HA:=Zh hA;have HY:=Zh hY;have HD:=Zh hdj;have HVK:=Zh hVK;have HAK:=Zh hAK;have HR3:=Zh hR3;have HX3:=Zh hX3;clear hV hA hY hdj hVK hAK hgb hcz hcu hv0 hR3 hX3
 go_wp2_with fail
 refine Qbu ?_;intro W hW
 have hRW:Blk W (w.heap.size+1) 26 #[.slice A' n c',.slice (some ⟨gb,0,none⟩) m d',.slice C' k e']:=by
  rw [hW];exact ((((((HR3.out.far (by simp only;omega) _).set_ 0 _).set_ 1 _).set_ 2 _).far (by simp) _).far (by simp) _).alloc _
 have hXW:Blk W (w.heap.size+1+1) 66 #[.slice none 0 0,.int .i64 0]:=by
  rw [hW];exact ((((((HX3.out.far (by simp only;omega) _).far (by simp) _).far (by simp) _).far (by simp) _).set_ 0 _).set_ 1 _).alloc _
 have hbW:Below w.heap.size w W:=by
  rw [hW];exact Bel.alloc ((((((hb3'.setCell (by simp only;omega) _).setCell (by simp only;omega) _).setCell (by simp only;omega) _).setCell (by simp only;omega) _).setCell (by simp only;omega) _).setCell (by simp only;omega) _)
 have hNW:Qbg (msk W (fun b=>w.heap.size≤b)) A' (some ⟨gb,0,none⟩) C' n m k (N.setW a x y u):=by
  rw [hW];exact (Raj (x1:=.slice A' n c') (x2:=.slice (some ⟨gb,0,none⟩) m d') (x3:=.slice C' k e') (x4:=.slice none 0 0) (x5:=.int .i64 0) (by omega) hK HV.out HA.out HY.out HD.out HAK.out HAR.out u).le (Qlq (fun b hb=>hb) (Le.alloc _ _))
 clear hW r0 r1 r2 x0 x1;obtain ⟨r0,r1,r2⟩:=hRW.three;obtain ⟨x0,x1,_,_⟩:=hXW.two;refine bodyPost_ret (v:=.tuple #[.agg #[.slice A' n c',.slice (some ⟨gb,0,none⟩) m d',.slice C' k e'],.agg #[.slice none 0 0,.int .i64 0]]) (by simp [results,results41,go_sem,r0,r1,r2,x0,x1]) rfl ?_;exact ⟨A',_,C',c',d',e',rfl,hNW,hbW⟩
end Go.Proofs.YtdheeddnkdhfeaaGreatDoor
