/- Parts of the proof: MdR, MdL, FsA, MdS, MdT, MdU, MdW, Err, As. -/
import Derived.Test.YthoagdpakddbdaaGreatDoorL13
import Derived.LaidEql
import Derived.Stop.Asserts
import Derived.RowKitTokens
import Derived.Lib.IfaceEq
import Derived.Stop.IfaceNil
namespace Go.Proofs.YthoagdpakddbdaaGreatDoor
open Go.RowKit Go.Proofs.Tryz
--BEGINPLAIN
def Qnq (N:Qai)(c:Chn):Prop:=0≤c.2.1∧∃ t,N.ts[c.2.1.toNat]?=some t∧0≤c.2.2.1∧c.2.2.1<t.ins∧0≤c.2.2.2.1∧c.2.2.2.1<t.outs
open Classical in
noncomputable def Qqw (N:Qai) (c:Chn):Int :=
 if c.1=1 then (if c.2.2.1≠0∨c.2.2.2.1≠0 then 1 else if ¬(0≤c.2.1∧c.2.1<(N.ar.length:Int)) then 5 else if wOk c.w=true then 0 else 8)
 else if c.1=2 then (if ¬Qnq N c then 5 else if wOk c.w=true then 0 else 8) else 1
theorem Qkk {N:Qai}{c:Chn}:Qqw N c=0↔ChOk N c:=by
 unfold Qqw
 constructor
 · intro h
   split at h
   · rename_i h1
     split at h
     · cases h
     · rename_i h2
       split at h
       · cases h
       · rename_i h3
         split at h
         · rename_i h4
           have h2':=not_or.1 h2;have h3':=Classical.not_not.1 h3;exact .inl ⟨c.2.1.toNat,h1,by omega,Classical.not_not.1 h2'.1,Classical.not_not.1 h2'.2,by omega,h4⟩
         · cases h
   · split at h
     · rename_i h1
       split at h
       · cases h
       · rename_i h2
         split at h
         · rename_i h4
           obtain ⟨k0,t,k1,k2,k3,k4,k5⟩:=Classical.not_not.1 h2;exact .inr ⟨c.2.1.toNat,_,t,h1,by omega,k1,k2,k3,k4,k5,rfl,h4⟩
         · cases h
     · cases h
 · rintro (⟨a,h⟩|⟨p,i,t,h⟩)
   · have h1:=h.at_
     have h2:=h.lt;rw [if_pos h.k,if_neg (by rw [h.i,h.o];simp),if_neg (by rw [h1];simp;omega),if_pos h.w]
   · have h1:=h.at_
     have e:c.2.1.toNat=p:=by rw [h1,Yl]
     rw [if_neg (by rw [h.k];decide),if_pos h.k,if_neg (not_not_intro ⟨by omega,t,by rw [e];exact h.tt,h.in0,h.in1,h.out0,h.out1⟩),if_pos h.w]
open Classical in
noncomputable def Qdy (N:Qai) (pre:List Chn) (c:Chn):Int:=if Qqw N c≠0 then Qqw N c else if c.key∈pre.map Chn.key then 6 else 0
structure Vd (N:Qai) (l:List Chn) (i:Nat) (e:Int):Prop where
 pre:∀ (j:Nat) (c:Chn),j<i→l[j]?=some c→Qdy N (l.take j) c=0
 at_:i=l.length∧e=0∨∃ c,l[i]?=some c∧Qdy N (l.take i) c=e∧e≠0
theorem Vd.le {N:Qai}{l:List Chn}{i:Nat}{e:Int}(h:Vd N l i e):i≤l.length:=by
 rcases h.at_ with ⟨h,_⟩|⟨c,h,_⟩
 · omega
 · exact Nat.le_of_lt (Zs h).1
theorem vd_ex (N:Qai)(l:List Chn):∃ i e,Vd N l i e:=by
 have key:∀ k,k≤l.length→(∀ (j:Nat) (c:Chn),j<k→l[j]?=some c→Qdy N (l.take j) c=0)∨∃ i e,Vd N l i e:=by
  intro k
  induction k with
  | zero=>exact fun _=>.inl (fun j c hj=>by omega)
  | succ k ih =>
   intro hk
   rcases ih (by omega) with h|h
   · obtain ⟨c,hc⟩:∃ c,l[k]?=some c:=⟨_,Zg (by omega)⟩
     by_cases h0:Qdy N (l.take k) c=0
     · refine .inl (fun j d hj hd=>?_)
       by_cases e:j=k
       · subst e
         rw [hc] at hd
         cases hd
         exact h0
       · exact h j d (by omega) hd
     · exact .inr ⟨k,_,h,.inr ⟨c,hc,rfl,h0⟩⟩
   · exact .inr h
 rcases key l.length (Zn _) with h|h
 · exact ⟨l.length,0,h,.inl ⟨rfl,rfl⟩⟩
 · exact h
theorem Qyg {N:Qai}{l:List Chn}:∀ {i:Nat},(∀ (j:Nat) (c:Chn),j<i→l[j]?=some c→Qdy N (l.take j) c=0)→Qcj N (l.take i)
 | 0,_=>⟨fun c hc=>by simp at hc,by simp⟩
 | i+1,h=>by
  have ih:=Qyg (i:=i) (fun j c hj=>h j c (by omega))
  cases hc:l[i]? with
  | none =>
   have hl:=List.getElem?_eq_none_iff.1 hc;rw [Ye (by omega)];rw [Ye hl] at ih;exact ih
  | some c =>
   have h0:=h i c (by omega) hc;unfold Qdy at h0
   split at h0
   · rename_i h1;exact absurd h0 h1
   · rename_i h1
     split at h0
     · cases h0
     · rename_i h2
       rw [Yf (Zs hc).1,(Zs hc).2];refine ⟨fun d hd=>?_,?_⟩
       · rcases List.mem_append.1 hd with hd|hd
         · exact ih.all d hd
         · rw [List.mem_singleton.1 hd]
           exact Qkk.1 (Classical.not_not.1 h1)
       · rw [List.map_append,List.nodup_append]
         refine ⟨ih.keys,by simp,fun a ha b hb e=>?_⟩;subst e;simp at hb;subst hb;exact h2 ha
theorem Vd.ok {N:Qai}{l:List Chn}{i:Nat}(h:Vd N l i 0):Qcj N l:=by
 rcases h.at_ with ⟨rfl,_⟩|⟨c,_,_,h3⟩
 · have:=Qyg h.pre
   rwa [List.take_length] at this
 · exact absurd rfl h3
theorem Qcj.step {N:Qai}{l:List Chn}(h:Qcj N l){j:Nat}{c:Chn} (hc:l[j]?=some c):Qdy N (l.take j) c=0:=by
 unfold Qdy;rw [if_neg (by rw [Qkk.2 (h.all c (Zm hc))];simp),if_neg (fun hm=>?_)];obtain ⟨d,hd,e⟩:=List.mem_map.1 hm;obtain ⟨k,hk⟩:=Yr hd;have hkj:k<j:=by have:=(Zs hk).1;rw [Yw] at this;omega
 rw [List.getElem?_take_of_lt hkj] at hk;have e1:(l.map Chn.key)[k]?=some c.key:=by rw [Yt,hk];simp [e]
 have e2:(l.map Chn.key)[j]?=some c.key:=by rw [Yt,hc];rfl
 have hkl:=(Zs e1).1;have hjl:=(Zs e2).1;have:=(List.getElem?_inj hkl h.keys).1 (e1.trans e2.symm);omega
theorem Qcj.vd {N:Qai}{l:List Chn}(h:Qcj N l):Vd N l l.length 0:=⟨fun _ _ _ hc=>h.step hc,.inl ⟨rfl,rfl⟩⟩
theorem Vd.here {N:Qai}{l:List Chn}{i j:Nat}{e:Int}{c:Chn}(h:Vd N l i e) (hc:l[j]?=some c) (hj:j≤i) (hs:Qdy N (l.take j) c≠0):j=i∧e=Qdy N (l.take j) c:=by
 have hji:j=i:=by
  rcases Nat.lt_or_ge j i with h1|h1
  · exact absurd (h.pre j c h1 hc) hs
  · omega
 subst hji;refine ⟨rfl,?_⟩
 rcases h.at_ with ⟨h1,_⟩|⟨d,h1,h2,_⟩
 · rw [Yd (by omega)] at hc;cases hc
 · rw [hc] at h1
   cases h1
   exact h2.symm
theorem Vd.on {N:Qai}{l:List Chn}{i j:Nat}{e:Int}{c:Chn}(h:Vd N l i e) (hc:l[j]?=some c) (hj:j≤i) (hs:Qdy N (l.take j) c=0):j+1≤i:=by
 rcases Nat.lt_or_ge j i with h1|h1
 · exact h1
 · obtain rfl:j=i:=by omega
   rcases h.at_ with ⟨h1,_⟩|⟨d,h1,h2,h3⟩
   · rw [Yd (by omega)] at hc;cases hc
   · rw [hc] at h1
     cases h1
     exact absurd (h2.symm.trans hs) h3
--ENDPLAIN
end Go.Proofs.YthoagdpakddbdaaGreatDoor
namespace Go.Proofs.YthoagdpakddbdaaGreatDoor
open Go.RowKit Go.Proofs.Tryz
attribute [local go_sem ↓] Go.wp_at_zero Go.wp_at_succ
set_option maxHeartbeats 2000000 in
theorem Qug (C:Option Addr)(k e:Nat)(N:Qai)(w:World)(x y z u v:Int)(h:RdY w C k N.ts)(b:Bool) (hb:b=true↔Qnq N (x,y,z,u,v)) :
 Calls prog 145 #[.slice C k e,.agg #[.int .i64 x,.int .i64 y,.int .i64 z,.int .i64 u,.int .i64 v]] w fun r w'=>r=.returned (.bool b)∧Below w.heap.size w w':=by
 have HR:=Zh h
 have nb:¬Qnq N (x,y,z,u,v)→b=false:=fun hn=>by
  cases b
  · rfl
  · exact absurd (hb.1 rfl) hn
 have pb:=hb.2;have hkl:=h.1;clear h hb
 by_cases hy0:y<0
 · obtain rfl:b=false:=nb (fun ht=>by have:=ht.1;simp only at this;omega)
   clear nb pb
   go_enter func145,ntmps145
   go_wp2_with fail
   go_ret
   exact ⟨rfl,Qaf⟩
 by_cases hyk:(k:Int)≤y
 · obtain rfl:b=false:=nb (fun ht=>by
    obtain ⟨_,t,h1,_⟩:=ht;have:=(Zs h1).1;simp only at this;omega)
   clear nb pb
   go_enter func145,ntmps145
   go_wp2_with fail
   go_ret
   exact ⟨rfl,Qaf⟩
 obtain ⟨p,rfl⟩:∃ p:Nat,y=p:=⟨y.toNat,by omega⟩;have hpk:p<k:=by omega
 obtain ⟨tb,to_,t,rfl,ht,c0,c1,A2,n2,c2,c3,hr,hcap⟩:=HR.out.at_ hpk;obtain ⟨ti,tO,cs⟩:=t;simp only at c0 c1 hr
 have tB:Qnq N (x,(p:Int),z,u,v)↔(0≤z∧z<ti∧0≤u∧u<tO):=by
  unfold Qnq;simp only [Yl]
  constructor
  · rintro ⟨_,t',h1,h2⟩
    rw [ht] at h1
    cases h1
    exact h2
  · intro h
    exact ⟨by omega,_,ht,h⟩
 rw [tB] at nb pb;have i3:(0:Int)≤(p:Int):=by omega
 have i4:(p:Int)<(k:Int):=by omega
 have hlt:=Qae c0;simp only at hlt;clear tB ht hr hcap hkl HR
 by_cases h1:0≤z
 rotate_left
 · obtain rfl:b=false:=nb (fun h=>h1 h.1)
   clear nb pb
   go_enter func145,ntmps145
   go_wp2_with fail
   go_ret
   exact ⟨rfl,Qaf⟩
 by_cases h2:z<ti
 rotate_left
 · obtain rfl:b=false:=nb (fun h=>h2 h.2.1)
   clear nb pb
   go_enter func145,ntmps145
   go_wp2_with fail
   go_ret
   exact ⟨rfl,Qaf⟩
 by_cases h3:0≤u
 rotate_left
 · obtain rfl:b=false:=nb (fun h=>h3 h.2.2.1)
   clear nb pb
   go_enter func145,ntmps145
   go_wp2_with fail
   go_ret
   exact ⟨rfl,Qaf⟩
 by_cases h4:u<tO
 rotate_left
 · obtain rfl:b=false:=nb (fun h=>h4 h.2.2.2)
   clear nb pb
   go_enter func145,ntmps145
   go_wp2_with fail
   go_ret
   exact ⟨rfl,Qaf⟩
 obtain rfl:b=true:=pb ⟨h1,h2,h3,h4⟩;clear nb pb
 go_enter func145,ntmps145
 go_wp2_with fail
 go_ret
 exact ⟨rfl,Qaf⟩
open Classical in
theorem Qwi (N:Qai)(x y z u v:Int):Qqw N (x,y,z,u,v)=if x=1 then (if z≠0∨u≠0 then 1 else if ¬(0≤y∧y<(N.ar.length:Int)) then 5 else if wOk v=true then 0 else 8) else if x=2 then (if ¬Qnq N (x,y,z,u,v) then 5 else if wOk v=true then 0 else 8) else 1:=rfl
set_option maxRecDepth 20000 in
set_option maxHeartbeats 4000000 in
theorem Qvj (g:Nat)(C:Option Addr)(k e:Nat)(N:Qai)(w:World)(x y z u v:Int)(hg:Qgm w g N)(h:RdY w C k N.ts) :
 Calls prog 105 #[.pointer (some ⟨g,0,none⟩),.slice C k e,.agg #[.int .i64 x,.int .i64 y,.int .i64 z,.int .i64 u,.int .i64 v]] w fun r w'=>r=.returned (.int .i64 (Qqw N (x,y,z,u,v)))∧Below w.heap.size w w':=by
 have HGA:=Zh (fun (V:World) (hV:Below w.heap.size w V)=>Qhk g N V (hg.below hV));have HIT:=Zh (fun (V:World) (hV:Below w.heap.size w V) b hb=>Qug C k e N V x y z u v (h.below hV) b hb);obtain ⟨E,hE⟩:∃ E,E=Qqw N (x,y,z,u,v):=⟨_,rfl⟩;rw [←hE];rw [Qwi] at hE;clear hg h
 by_cases hx1:x=1
 · rw [if_pos hx1] at hE
   subst hx1
   by_cases hz:z=0
   rotate_left
   · rw [if_pos (.inl hz)] at hE
     subst hE
     go_enter func105,ntmps105
     go_wp2_with fail
     go_ret
     exact ⟨rfl,Qaf⟩
   by_cases hu:u=0
   rotate_left
   · rw [if_pos (.inr hu)] at hE
     subst hE;subst hz
     go_enter func105,ntmps105
     go_wp2_with fail
     go_ret
     exact ⟨rfl,Qaf⟩
   rw [if_neg (by rintro (h|h);exact h hz;exact h hu)] at hE;subst hz;subst hu
   by_cases hy0:y<0
   · rw [if_pos (by omega)] at hE
     subst hE
     go_enter func105,ntmps105
     go_wp2_with fail
     (refine Qag ?_;intro w1 hw1)
     have hb1:Below w.heap.size w w1:=by rw [hw1];exact Qaf
     have hX:Blk w1 w.heap.size 83 #[.int .i64 1,.int .i64 y,.int .i64 0,.int .i64 0,.int .i64 v]:=by rw [hw1];exact Qaz
     clear hw1;have HSX:=Zh (show ∀ V,Blk V w.heap.size 83 #[.int .i64 1,.int .i64 y,.int .i64 0,.int .i64 0,.int .i64 v]→V.cell? ⟨w.heap.size,0,none⟩=some (.int .i64 1)∧V.cell? ⟨w.heap.size,1,none⟩=some (.int .i64 y) from fun V hV=>⟨Zq hV,Zq hV⟩)
     refine wp_region_held_drew (S:=fun V=>Blk V w.heap.size 83 #[.int .i64 1,.int .i64 y,.int .i64 0,.int .i64 0,.int .i64 v]) (by kernel_rfl) hX.drew (fun _=>?_);refine tz 0 31 ?_;refine tz 1 32 ?_;refine tz 2 33 ?_;refine tz 3 34 ?_;refine tz 4 35 ?_;refine tz 5 36 ?_;refine tz 6 37 ?_;refine tz 7 38 ?_;refine tw 8 39 ?_;refine tw 9 40 ?_;refine tw 10 41 ?_;refine tw 11 42 ?_;refine tw 12 43 ?_;refine tz 13 44 ?_;refine tz 14 45 ?_;refine tz 15 30 ?_;refine Zd ?_;clear HSX
     go_wp2_with fail
     go_ret
     exact ⟨rfl,Qaf⟩
   by_cases hyn:(N.ar.length:Int)≤y
   · rw [if_pos (by omega)] at hE
     subst hE
     go_enter func105,ntmps105
     go_wp2_with fail
     (refine Qag ?_;intro w1 hw1)
     have hb1:Below w.heap.size w w1:=by rw [hw1];exact Qaf
     have hX:Blk w1 w.heap.size 83 #[.int .i64 1,.int .i64 y,.int .i64 0,.int .i64 0,.int .i64 v]:=by rw [hw1];exact Qaz
     clear hw1;have HSX:=Zh (show ∀ V,Below w1.heap.size w1 V→V.cell? ⟨w.heap.size,0,none⟩=some (.int .i64 1)∧V.cell? ⟨w.heap.size,1,none⟩=some (.int .i64 y)∧decide (y<0)=false from fun V hV=>⟨by rw [(hX.below hV hX.lt).cell];rfl,by rw [(hX.below hV hX.lt).cell];rfl,decide_eq_false (by omega)⟩)
     refine wp_region_held_drew (S:=fun V=>Below w1.heap.size w1 V) (by kernel_rfl) (Zr _ _).drew (fun _=>?_);refine tz 0 31 ?_;refine tz 1 32 ?_;refine tz 2 33 ?_;refine tz 3 34 ?_;refine tz 4 35 ?_;refine tz 5 36 ?_;refine tz 6 37 ?_;refine tz 7 38 ?_;refine tz 8 39 ?_;refine tz 9 40 ?_;refine tz 10 41 ?_;refine Zk 11 (fun K hK=>?_);go_simp;with_reducible refine (HGA.out _ (Zb hb1 (Zr _ _).drew)).mono ?_
     rintro r w' ⟨rfl,rfl⟩;go_simp;refine hK.out _ _ (Zr _ _).drew (fun _=>?_);clear hK K;refine tz 12 43 ?_;refine tz 13 44 ?_;refine tz 14 45 ?_;refine tz 15 30 ?_;refine Zd ?_;clear HSX
     go_wp2_with fail
     go_ret
     exact ⟨rfl,Qaf⟩
   rw [if_neg (by omega)] at hE;have hyn':y<(N.ar.length:Int):=by omega
   go_enter func105,ntmps105
   go_wp2_with fail
   (refine Qag ?_;intro w1 hw1)
   have hb1:Below w.heap.size w w1:=by rw [hw1];exact Qaf
   have hX:Blk w1 w.heap.size 83 #[.int .i64 1,.int .i64 y,.int .i64 0,.int .i64 0,.int .i64 v]:=by rw [hw1];exact Qaz
   clear hw1;have HSX:=Zh (show ∀ V,Below w1.heap.size w1 V→V.cell? ⟨w.heap.size,0,none⟩=some (.int .i64 1)∧V.cell? ⟨w.heap.size,1,none⟩=some (.int .i64 y)∧decide (y<0)=false∧decide ((N.ar.length:Int)≤y)=false from fun V hV=>⟨by rw [(hX.below hV hX.lt).cell];rfl,by rw [(hX.below hV hX.lt).cell];rfl,decide_eq_false (by omega),decide_eq_false (by omega)⟩)
   refine wp_region_held_drew (S:=fun V=>Below w1.heap.size w1 V) (by kernel_rfl) (Zr _ _).drew (fun _=>?_);refine tz 0 31 ?_;refine tz 1 32 ?_;refine tz 2 33 ?_;refine tz 3 34 ?_;refine tz 4 35 ?_;refine tz 5 36 ?_;refine tz 6 37 ?_;refine tz 7 38 ?_;refine tz 8 39 ?_;refine tz 9 40 ?_;refine tz 10 41 ?_;refine Zk 11 (fun K hK=>?_);go_simp;with_reducible refine (HGA.out _ (Zb hb1 (Zr _ _).drew)).mono ?_
   rintro r w' ⟨rfl,rfl⟩;go_simp;refine hK.out _ _ (Zr _ _).drew (fun _=>?_);clear hK K;refine tz 12 43 ?_;refine tz 13 44 ?_;refine tz 14 45 ?_;refine tz 15 30 ?_;refine Zd ?_;clear HSX;have x0:=hX.cell 0;have x4:=hX.cell 4;simp only [Yo,Yn,List.getElem?_cons_succ] at x0 x4
   go_wp2_with fail
   with_reducible refine (Qce v _).mono ?_
   rintro r w' ⟨rfl,rfl⟩
   cases hw:wOk v with
   | true =>
    rw [hw,if_pos rfl] at hE;subst hE
    go_wp2_with fail
    go_ret
    exact ⟨rfl,Qaf⟩
   | false =>
    rw [hw,if_neg (by simp)] at hE;subst hE
    go_wp2_with fail
    go_ret
    exact ⟨rfl,Qaf⟩
 · rw [if_neg hx1] at hE
   by_cases hx2:x=2
   rotate_left
   · rw [if_neg hx2] at hE
     subst hE;have e1:(x != 1)=true:=by simpa using hx1
     have e2:(x != 2)=true:=by simpa using hx2
     have e3:(x == 1)=false:=by simpa using hx1
     have e4:(x == 2)=false:=by simpa using hx2
     clear hx1 hx2
     go_enter func105,ntmps105
     go_wp2_with fail
     go_ret
     exact ⟨rfl,Qaf⟩
   rw [if_pos hx2] at hE;subst hx2;clear hx1
   obtain ⟨tb,htb⟩:∃ b:Bool,b=true↔Qnq N (2,y,z,u,v):=by
    by_cases ht:Qnq N (2,y,z,u,v)
    · exact ⟨true,by simp [ht]⟩
    · exact ⟨false,by simp [ht]⟩
   have HTB:=Zh htb;clear htb
   go_enter func105,ntmps105
   go_wp2_with fail
   (refine Qag ?_;intro w1 hw1)
   have hb1:Below w.heap.size w w1:=by rw [hw1];exact Qaf
   have hX:Blk w1 w.heap.size 83 #[.int .i64 2,.int .i64 y,.int .i64 z,.int .i64 u,.int .i64 v]:=by rw [hw1];exact Qaz
   clear hw1;have HSX:=Zh (show ∀ V,Below w1.heap.size w1 V→V.cell? ⟨w.heap.size,0,none⟩=some (.int .i64 2) from fun V hV=>by rw [(hX.below hV hX.lt).cell];rfl)
   refine wp_region_held_drew (S:=fun V=>Below w1.heap.size w1 V) (by kernel_rfl) (Zr _ _).drew (fun _=>?_);refine tz 0 31 ?_;refine tz 1 32 ?_;refine tz 2 33 ?_;refine tz 3 34 ?_;refine tw 4 35 ?_;refine tw 5 36 ?_;refine tw 6 37 ?_;refine tw 7 38 ?_;refine tw 8 39 ?_;refine tw 9 40 ?_;refine tw 10 41 ?_;refine tw 11 42 ?_;refine tw 12 43 ?_;refine tw 13 44 ?_;refine tz 14 45 ?_;refine tz 15 30 ?_;refine Zd ?_;clear HSX
   obtain ⟨x0,x1,x2,x3,x4⟩:w1.cell? ⟨w.heap.size,0,none⟩=some (.int .i64 2)∧w1.cell? ⟨w.heap.size,1,none⟩=some (.int .i64 y)∧w1.cell? ⟨w.heap.size,2,none⟩=some (.int .i64 z)∧w1.cell? ⟨w.heap.size,3,none⟩=some (.int .i64 u)∧w1.cell? ⟨w.heap.size,4,none⟩=some (.int .i64 v) :=
    ⟨Zq hX,Zq hX,Zq hX,Zq hX,Zq hX⟩
   go_wp2_with fail
   with_reducible refine (HIT.out _ (Zb hb1 (Zr _ _).drew) tb HTB.out).mono ?_
   rintro r w2 ⟨rfl,hb2⟩;have hb2':Below w1.heap.size w1 w2:=(Zr _ _).drew.trans hb2;have hX2:=hX.below hb2' hX.lt;have xl:=hX2.lt;have hbw2:=Zb hb1 hb2';clear x0 x1 x2 x3 x4 hX hb1 hb2 hb2';have x4:=hX2.cell 4;simp only [Yo,Yn,List.getElem?_cons_succ] at x4
   cases tb with
   | false =>
    rw [if_pos (fun ht=>by have:=HTB.out.2 ht;cases this)] at hE
    subst hE
    go_wp2_with fail
    go_ret
    exact ⟨rfl,Qaf⟩
   | true =>
    rw [if_neg (not_not_intro (HTB.out.1 rfl))] at hE;have HE:=Zh hE;clear hE
    go_wp2_with fail
    with_reducible refine (Qce v _).mono ?_
    rintro r w' ⟨rfl,rfl⟩;have hE:=HE.out
    cases hw:wOk v with
    | true =>
     rw [hw,if_pos rfl] at hE;subst hE
     go_wp2_with fail
     go_ret
     exact ⟨rfl,Qaf⟩
    | false =>
     rw [hw,if_neg (by simp)] at hE;subst hE
     go_wp2_with fail
     go_ret
     exact ⟨rfl,Qaf⟩
end Go.Proofs.YthoagdpakddbdaaGreatDoor
namespace Go.Proofs.YthoagdpakddbdaaGreatDoor
open Go.RowKit Go.Proofs.Tryz
theorem Qdz.getD {l m:List Tri}(h:Qdz l m)(i:Nat):(l.getD i (0,0,0)).1=(m.getD i (0,0,0)).1∧(l.getD i (0,0,0)).2.1=(m.getD i (0,0,0)).2.1:=by
 simp only [Ya]
 cases ha:l[i]? with
 | none =>
  have:m[i]?=none:=Yd (by rw [←h.len];exact List.getElem?_eq_none_iff.1 ha);rw [this];exact ⟨rfl,rfl⟩
 | some a =>
  obtain ⟨b,hb,e1,e2⟩:=h.get ha;rw [hb];exact ⟨e1.symm,e2.symm⟩
theorem Qkc (P:Tri→Bool):∀ (l m:List Tri) (k:Nat),l.map P=m.map P→((l.zipIdx k).filter (fun p=>P p.1)).map (fun p=>(p.2:Int))=((m.zipIdx k).filter (fun p=>P p.1)).map (fun p=>(p.2:Int))
 | [],[],_,_=>rfl
 | [],_::_,_,h=>by simp at h
 | _::_,[],_,h=>by simp at h
 | a::l,b::m,k,h=>by
  simp only [List.map_cons,List.cons.injEq] at h;have ih:=Qkc P l m (k+1) h.2;simp only [List.zipIdx_cons,List.filter_cons,h.1]
  split
  · simp only [List.map_cons,ih]
  · exact ih
theorem Qdz.cross {l m:List Tri}(h:Qdz l m)(c:List Int):Qat l c=Qat m c:=by
 refine Qkc (Qcd c) l m 0 ?_
 apply List.ext_getElem?
 intro i;simp only [Yt]
 cases ha:l[i]? with
 | none =>
  have:m[i]?=none:=Yd (by rw [←h.len];exact List.getElem?_eq_none_iff.1 ha);rw [this]
 | some a =>
  obtain ⟨b,hb,e1,e2⟩:=h.get ha;rw [hb];simp only [Option.map_some,Qcd,e1,e2]
theorem Qdz.gateRow {l m:List Tri}(h:Qdz l m)(c:List Int):gateRow l c=gateRow m c:=by
 have h1:∀ a,toC l c a=toC m c a:=fun a=>by unfold toC;rw [(h.getD a.toNat).2]
 have h2:∀ a,frC l c a=frC m c a:=fun a=>by unfold frC;rw [(h.getD a.toNat).1]
 unfold YthoagdpakddbdaaGreatDoor.gateRow;rw [h.cross c];simp only [h1,h2]
theorem Qdz.gatesOf {l m:List Tri}(h:Qdz l m) (ls:List (List Int)):gatesOf l ls=gatesOf m ls:=by
 unfold YthoagdpakddbdaaGreatDoor.gatesOf;refine List.map_congr_left (fun c _=>h.gateRow c)
theorem Qfm.alike {W:World}{o:Nat}{l m:List Tri} {ls:List (List Int)} (h:Qfm W o l ls) (ha:Qdz m l):Qfm W o m ls:=by
 obtain ⟨Q,F,T,G,S,L,k,cq,cf,ct,cg,cs,h⟩:=h;have e:=ha.gatesOf ls;exact ⟨Q,F,T,G,S,L,k,cq,cf,ct,cg,cs,h.n0,h.n1,h.n2,h.n3,h.n4,by rw [e];exact h.n5,h.part,by rw [ha.1];exact h.fr,by rw [ha.2];exact h.to,by rw [e];exact h.gates,by rw [e];exact h.starts,h.c0⟩
--BEGINPLAIN
def tb (ls:List (List Int)) (f:Nat→Nat→Bool):List (List Bool):=(List.range ls.length).map (fun i=>(List.range (Qaj (ls.getD i [])).toNat).map (f i))
theorem Qfy (ls:List (List Int)) (f:Nat→Nat→Bool):(tb ls f).length=ls.length:=by simp [tb]
theorem Qes {ls:List (List Int)} {i:Nat} {l:List Int} (h:ls[i]?=some l):ls.getD i []=l:=by rw [Ya,h];rfl
theorem Qei {ls:List (List Int)} {f:Nat→Nat→Bool} {i:Nat} {l:List Int} (h:ls[i]?=some l):(tb ls f)[i]?=some ((List.range (Qaj l).toNat).map (f i)):=by
 unfold tb;rw [Yt,List.getElem?_range (Zs h).1,Option.map_some,Qes h]
theorem Qdc {ls:List (List Int)} {f g:Nat→Nat→Bool} (h:∀ (i:Nat) (l:List Int),ls[i]?=some l→∀ q,q<(Qaj l).toNat→f i q=g i q):tb ls f=tb ls g:=by
 unfold tb;refine List.map_congr_left (fun i hi=>List.map_congr_left (fun q hq=>?_));have hi:=Zg (List.mem_range.1 hi);refine h i _ hi q ?_;rw [Qes hi] at hq;exact List.mem_range.1 hq
def Qof (N:Qai)(p:Int)(l:List Int)(k q:Nat):Bool:=(List.range k).any (fun v=>(N.vs.getD v (0,0,0)).2.2 == p && Qah l (v:Int) == (q:Int))
theorem Qog (N:Qai)(p:Int)(l:List Int)(k q:Nat):Qof N p l (k+1) q=(Qof N p l k q || ((N.vs.getD k (0,0,0)).2.2 == p && Qah l (k:Int) == (q:Int))):=by
 unfold Qof;rw [List.range_succ,List.any_append];simp
theorem Qtl {N:Qai}{p:Int}{l:List Int}{q:Nat}:Qof N p l N.vs.length q=true↔∃ (v:Nat) (x:Tri),N.vs[v]?=some x∧x.2.2=p∧Qah l (v:Int)=q:=by
 unfold Qof;rw [List.any_eq_true]
 constructor
 · rintro ⟨v,hv,h⟩
   have hv:=List.mem_range.1 hv;rw [Ya,Zg hv] at h;simp only [Option.getD_some,Bool.and_eq_true,beq_iff_eq] at h;exact ⟨v,_,Zg hv,h.1,h.2⟩
 · rintro ⟨v,x,h1,h2,h3⟩
   refine ⟨v,List.mem_range.2 (Zs h1).1,?_⟩;rw [Ya,h1];simp [h2,h3]
def trnI (t:Qby)(c:Chn):Nat:=c.2.2.1.toNat*t.outs.toNat+c.2.2.2.1.toNat
def chgM (N:Qai)(c:Chn)(l:List Int)(q:Nat):Bool :=
 if c.1=1 then (match N.ar[c.2.1.toNat]? with|some y=>y.2.2 != c.w && (Qah l y.1 == (q:Int) && Qah l y.2.1 == (q:Int))|none=>false)
 else (match N.ts[c.2.1.toNat]? with|some t=>t.costs.getD (trnI t c) 0 != c.w && Qof N c.2.1 l N.vs.length q|none=>false)
def tchB (N:Qai)(ch:List Chn)(l:List Int)(q:Nat):Bool:=ch.any (fun c=>chgM N c l q)
def Qdl (N:Qai) (ls:List (List Int)) (ch:List Chn) (i q:Nat):Bool:=tchB N ch (ls.getD i []) q
theorem Qxy (N:Qai)(ch:List Chn)(c:Chn)(l:List Int)(q:Nat):tchB N (ch ++[c]) l q=(tchB N ch l q || chgM N c l q):=by simp [tchB]
theorem Qgy.marks {N:Qai}{c:Chn}{a:Nat}(h:Qgy N c a){y:Tri} (hy:N.ar[a]?=some y) (l:List Int) (q:Nat):chgM N c l q=(y.2.2 != c.w && (Qah l y.1 == (q:Int) && Qah l y.2.1 == (q:Int))):=by
 unfold chgM;have e:c.2.1.toNat=a:=by rw [h.at_,Yl]
 rw [if_pos h.k,e,hy]
theorem Qcc.marks {N:Qai}{c:Chn}{p i:Nat}{t:Qby}(h:Qcc N c p i t)(l:List Int)(q:Nat):chgM N c l q=(t.costs.getD i 0 != c.w && Qof N (p:Int) l N.vs.length q):=by
 unfold chgM;have e:c.2.1.toNat=p:=by rw [h.at_,Yl]
 rw [if_neg (by rw [h.k];decide),e,h.tt];simp only;rw [h.at_,show trnI t c=i from h.i.symm]
def netT (N M:Qai)(l:List Int)(q:Nat):Prop :=
 (∃ (b:Nat) (y z:Tri),N.ar[b]?=some y∧M.ar[b]?=some z∧Qah l y.1=(q:Int)∧Qah l y.2.1=(q:Int)∧z.2.2≠y.2.2) ∨
 ∃ (v:Nat) (x:Tri),N.vs[v]?=some x∧Qah l (v:Int)=(q:Int)∧M.ts[x.2.2.toNat]?≠N.ts[x.2.2.toNat]?
theorem Qxl {s t:Qby}(h1:s.ins=t.ins)(h2:s.outs=t.outs) (h3:∀ i:Nat,s.costs[i]?=t.costs[i]?):s=t:=by
 cases s
 cases t
 simp only at h1 h2 h3;rw [h1,h2,List.ext_getElem? h3]
theorem Qzq {N:Qai}(hN:Qav N){ch:List Chn}(h:Qcj N ch){l:List Int}{q:Nat}:tchB N ch l q=true↔netT N (Qdq N ch) l q:=by
 unfold tchB;rw [List.any_eq_true]
 constructor
 · rintro ⟨c,hc,hm⟩
   rcases h.all c hc with ⟨a,hs⟩|⟨p,i,t,hb⟩
   · obtain ⟨⟨x,y,z⟩,ha⟩:∃ e,N.ar[a]?=some e:=⟨_,Zg hs.lt⟩
     rw [hs.marks ha] at hm;simp only [Bool.and_eq_true,beq_iff_eq,bne_iff_ne] at hm;obtain ⟨u,e1,e2,_⟩:=Qoe h ha;exact .inl ⟨a,_,_,ha,e1,hm.2.1,hm.2.2,by simp only;rw [e2 c hc hs];exact fun e=>hm.1 e.symm⟩
   · rw [hb.marks] at hm
     simp only [Bool.and_eq_true,bne_iff_ne] at hm;obtain ⟨v,x,hv,e1,e2⟩:=Qtl.1 hm.2;obtain ⟨t',k1,k2,k3,k4,k5⟩:=Qmz hN h hb.tt;refine .inr ⟨v,x,hv,e2,?_⟩;rw [e1,Yl,k1,hb.tt];intro e
     cases e
     have h1:=(k5 i).1 c hc hb
     apply hm.1
     rw [Ya,h1]
     rfl
 · rintro (⟨b,⟨x,y,z⟩,z2,h1,h2,h3,h4,h5⟩|⟨v,x,h1,h2,h3⟩)
   · obtain ⟨u,e1,e2,e3⟩:=Qoe h h1
     rw [h2] at e1
     cases e1
     have:∃ c∈ch,Qgy N c b:=by
      apply Classical.byContradiction
      intro hn;exact h5 (e3 (fun c hc hs=>hn ⟨c,hc,hs⟩))
     obtain ⟨c,hc,hs⟩:=this;refine ⟨c,hc,?_⟩;rw [hs.marks h1];simp only [Bool.and_eq_true,beq_iff_eq,bne_iff_ne];exact ⟨fun e=>h5 (by rw [e2 c hc hs];exact e.symm),h3,h4⟩
   · have ho:=hN.verts x (Zm h1)
     have t0:=ho.t0;have t1:=ho.t1;obtain ⟨p,hp⟩:∃ p:Nat,x.2.2=p:=⟨x.2.2.toNat,by omega⟩;rw [hp,Yl] at h3;obtain ⟨t,ht⟩:∃ t,N.ts[p]?=some t:=⟨_,Zg (by omega)⟩;obtain ⟨t',k1,k2,k3,k4,k5⟩:=Qmz hN h ht
     have:∃ c∈ch,∃ i,Qcc N c p i t∧t.costs[i]?≠some c.w:=by
      apply Classical.byContradiction
      intro hn
      apply h3
      rw [k1,ht]
      congr 1
      refine Qxl k2 k3 (fun i=>?_)
      by_cases hex:∃ c∈ch,Qcc N c p i t
      · obtain ⟨c,hc,hb⟩:=hex
        rw [(k5 i).1 c hc hb];exact (Classical.byContradiction (fun hne=>hn ⟨c,hc,i,hb,hne⟩):t.costs[i]?=some c.w).symm
      · exact (k5 i).2 (fun c hc hb=>hex ⟨c,hc,hb⟩)
     obtain ⟨c,hc,i,hb,hne⟩:=this;refine ⟨c,hc,?_⟩;rw [hb.marks];simp only [Bool.and_eq_true,bne_iff_ne];refine ⟨fun e=>hne ?_,Qtl.2 ⟨v,x,h1,hp,h2⟩⟩;have hl:=hb.lt hN;rw [Ya,Zg hl] at e;rw [Zg hl];exact congrArg some e
theorem Qej.of {N M:Qai}(hk:Kin N M){l:List Int}{q:Nat}(h:¬netT N M l q):Qej N M (Qcw l q):=by
 have hc:∀ n:Nat,(Qcw l (q:Int)).getD n false=true→l.getD n 0=(q:Int):=by
  intro n hn;unfold Qcw at hn;rw [Ya,Yt] at hn;rw [Ya]
  cases e:l[n]? with
  | none=>rw [e] at hn;simp at hn
  | some z=>rw [e] at hn;simpa using hn
 refine ⟨hk,fun b y z h1 h2 h3 h4=>?_,fun v x h1 h2=>?_⟩
 · exact Classical.byContradiction (fun e=>h (.inl ⟨b,y,z,h1,h2,hc _ h3,hc _ h4,e⟩))
 · refine Classical.byContradiction (fun e=>h (.inr ⟨v,x,h1,?_,e⟩))
   unfold Qah;rw [Yl];exact hc _ h2
--ENDPLAIN
--BEGINPLAIN
theorem bool_iff {a b:Bool}(h:a=true↔b=true):a=b:=by
 cases a <;> cases b <;> simp_all
theorem Qwq:∀ {l m:List Chn}{N:Qai},Qcj N (l ++m)→Qcj N l∧Qcj (Qdq N l) m
 | [],m,N,h=>⟨⟨fun c hc=>by simp at hc,by simp⟩,h⟩
 | c::l,m,N,h=>by
  obtain ⟨h1,h2⟩:=Qwq (l:=l) (m:=m) h.tail;refine ⟨⟨fun d hd=>h.all d ?_,?_⟩,h2⟩
  · rcases List.mem_cons.1 hd with rfl|hd
    · exact List.mem_append_left _ (List.mem_cons_self ..)
    · exact List.mem_append_left _ (List.mem_cons_of_mem _ hd)
  · have:=h.keys
    rw [List.map_append,List.nodup_append] at this;exact this.1
def Qtx (r:List Bool):Nat:=r.countP (fun b=>b)
def Qlv (t:List (List Bool)):Nat:=(t.map Qtx).sum
theorem Qph {r:List Bool}{i:Nat}{b:Bool} (h:r[i]?=some b):Qtx (r.take (i+1))=Qtx (r.take i)+(if b=true then 1 else 0):=by
 rw [Yf (Zs h).1,(Zs h).2];unfold Qtx;rw [List.countP_append];simp
theorem Qqh {t:List (List Bool)} {i:Nat} {r:List Bool} (h:t[i]?=some r):Qlv (t.take (i+1))=Qlv (t.take i)+Qtx r:=by
 rw [Yf (Zs h).1,(Zs h).2];unfold Qlv;simp
--ENDPLAIN
def Qhb (N M:Qai) (ls:List (List Int)) (i c:Nat) (cl:List Int):Prop:=∀ (k:Nat) (lb:List Int) (q:Nat) (y:Qak) (a b s t:Nat),¬(k<i∨k=i∧q<c)→ls[k]?=some lb→(gateRow M.ar lb)[q]?=some y→y.1[a]?=some (s:Int)→y.2[b]?=some (t:Int) →
 Qgr N (Qcw lb q) s t (cl.getD (Qhn (gatesOf M.ar ls) (gateRow M.ar lb) k q y a b) 0)
theorem Qhb.start {N M:Qai}(hk:Kin N M) {ls:List (List Int)} {cl:List Int} (h:Qfd N ls cl):Qhb N M ls 0 0 cl:=fun k lb q y a b s t _ hb hy h1 h2=>by
 rw [hk.al.gateRow] at hy;rw [hk.al.gatesOf,hk.al.gateRow];exact h.done ls.length 0 k lb q y a b s t (.inl (Zs hb).1) hb hy h1 h2
theorem Qhb.skip {N M:Qai} {ls:List (List Int)} {i c:Nat} {cl:List Int} (h:Qhb N M ls i c cl):Qhb N M ls i (c+1) cl:=fun k lb q y a b s t hn=>h k lb q y a b s t (by omega)
theorem Qhb.up {N M:Qai} {ls:List (List Int)} {i c:Nat} {cl:List Int} (h:Qhb N M ls i c cl):Qhb N M ls (i+1) 0 cl:=fun k lb q y a b s t hn=>h k lb q y a b s t (by omega)
theorem Qhb.next {N M:Qai} {ls:List (List Int)} {i c:Nat} {l:List Int} {x:Qak} {cl ces:List Int} (h:Qhb N M ls i c cl) (hl:ls[i]?=some l) (hx:(gateRow M.ar l)[c]?=some x) (hn:ces.length=szG x)
 (hfit:Qbr ((gatesOf M.ar ls).take i)+Qda ((gateRow M.ar l).take c)+szG x≤cl.length) :
 Qhb N M ls i (c+1) (splice cl (Qbr ((gatesOf M.ar ls).take i)+Qda ((gateRow M.ar l).take c)) ces):=fun k lb q y a b s t hk hb hy h1 h2=>by
 have hge:Qbr ((gatesOf M.ar ls).take i)+Qda ((gateRow M.ar l).take c)+szG x≤Qhn (gatesOf M.ar ls) (gateRow M.ar lb) k q y a b:=by
  have e1:=Qcl hx;unfold Qhn
  by_cases e:k=i
  · subst e
    rw [hl] at hb
    cases hb
    have:=Qfx (gateRow M.ar l) (show c+1≤q by omega)
    omega
  · have e2:=Qfo (gatesOf M.ar ls) (show i+1≤k by omega)
    rw [Qck (Qbj (ar:=M.ar) hl)] at e2;have e3:=Qgb (gateRow M.ar l) (c+1);omega
 rw [Qlf (by omega),if_neg (by omega),if_neg (by omega)];exact h k lb q y a b s t (by omega) hb hy h1 h2
theorem ends_in {N:Qai}(hok:Qav N){l:List Int}(hl:l.length=N.vs.length){c:Nat}{x:Qak} (hx:(gateRow N.ar l)[c]?=some x) {a s:Nat} (h:x.1[a]?=some (s:Int)):∀ y,N.ar[s]?=some y→(Qcw l c).getD y.2.1.toNat false=true:=fun y hy=>by
 obtain ⟨y',e,_,h2⟩:=(Qdm hx).1 (Zm h);rw [hy] at e
 cases e
 have ho:=hok.arcs y (Zm hy);have g0:=ho.g0;have g1:=ho.g1;exact (Qia (by omega)).2 h2
theorem Qdp.keep {N M:Qai}(hok:Qav N)(hs:Kin N M) {ls:List (List Int)} {i c:Nat} {l:List Int} {cl:List Int} (h:Qdp M ls i c cl) (hr:Qhb N M ls i c cl) (hl:ls[i]?=some l) (hll:l.length=N.vs.length) (hc:¬netT N M l c):Qdp M ls i (c+1) cl:=fun k lb q y a b s t hk hb hy h1 h2=>by
 by_cases hkq:k<i∨k=i∧q<c
 · exact h k lb q y a b s t hkq hb hy h1 h2
 · obtain ⟨rfl,rfl⟩:k=i∧q=c:=by omega
   have he:=hr k lb q y a b s t hkq hb hy h1 h2;rw [hl] at hb
   cases hb
   refine (Qej.of hs hc).ent (ends_in hok hll ?_ h1) he;rw [←hs.al.gateRow];exact hy
theorem Qhd.kin {N M:Qai}(hk:Kin N M) {ls:List (List Int)} {k i c a b s t:Nat} {l:List Int} {x:Qak} (h:Qhd N ls k i l c x a b s t):Qhd M ls k i l c x a b s t :=
 ⟨h.hl,by rw [hk.al.gateRow];exact h.hx,h.ha,h.hb,by rw [hk.al.gateRow,hk.al.gatesOf];exact h.hk⟩
def Qxk (a b:List Int)(f n:Nat):Bool:=(List.range n).any (fun k=>a.getD (f+k) 0 != b.getD (f+k) 0)
theorem Qya (a b:List Int)(f n:Nat):Qxk a b f (n+1)=(Qxk a b f n || a.getD (f+n) 0 != b.getD (f+n) 0):=by
 unfold Qxk;rw [List.range_succ,List.any_append];simp
theorem Qiw {a b:List Int}{f n:Nat}:Qxk a b f n=false↔∀ k,k<n→a.getD (f+k) 0=b.getD (f+k) 0:=by
 unfold Qxk;rw [List.any_eq_false];simp
def Qso (ar:List Tri) (ls:List (List Int)) (i q:Nat):Nat:=Qbr ((gatesOf ar ls).take i)+Qda ((gateRow ar (ls.getD i [])).take q)
def Qyo (ar:List Tri) (ls:List (List Int)) (i q:Nat):Nat:=szG ((gateRow ar (ls.getD i [])).getD q ([],[]))
def difI (ar:List Tri) (ls:List (List Int)) (a b:List Int) (i q:Nat):Bool:=Qxk a b (Qso ar ls i q) (Qyo ar ls i q)
def Qcf:List Chn→List Value
 | []=>[]
 | p::t=>.int .i64 p.1::.int .i64 p.2.1::.int .i64 p.2.2.1::.int .i64 p.2.2.2.1::.int .i64 p.2.2.2.2::Qcf t
theorem Qlu:∀ l:List Chn,(Qcf l).length=l.length*5
 | []=>rfl
 | _::t=>by simp [Qcf,Qlu t];omega
theorem Qme:∀ l m:List Chn,Qcf (l ++m)=Qcf l ++Qcf m
 | [],_=>rfl
 | p::t,m=>by simp [Qcf,Qme t m]
theorem Qqt {L:List Chn}{k:Nat}{p:Chn} (h:L[k]?=some p):Qcf (L.take (k+1))=Qcf (L.take k) ++[.int .i64 p.1,.int .i64 p.2.1,.int .i64 p.2.2.1,.int .i64 p.2.2.2.1,.int .i64 p.2.2.2.2]:=by
 obtain ⟨hlt,e⟩:=Zs h;rw [Yf hlt,e,Qme]
 rfl
theorem Qlw:∀ {l:List Chn}{i:Nat}{p:Chn},l[i]?=some p→(Qcf l)[i*5]?=some (.int .i64 p.1)∧(Qcf l)[i*5+1]?=some (.int .i64 p.2.1)∧(Qcf l)[i*5+2]?=some (.int .i64 p.2.2.1)∧(Qcf l)[i*5+3]?=some (.int .i64 p.2.2.2.1)∧(Qcf l)[i*5+4]?=some (.int .i64 p.2.2.2.2)
 | [],i,p,h=>by simp at h
 | q::t,0,p,h=>by simp at h;subst h;simp [Qcf]
 | q::t,i+1,p,h=>by
  have:=Qlw (l:=t) (i:=i) (p:=p) (by simpa using h);rw [show (i+1)*5=i*5+1+1+1+1+1 by omega,show i*5+1+1+1+1+1+1=(i*5+1)+1+1+1+1+1 by omega,show i*5+1+1+1+1+1+2=(i*5+2)+1+1+1+1+1 by omega,show i*5+1+1+1+1+1+3=(i*5+3)+1+1+1+1+1 by omega,show i*5+1+1+1+1+1+4=(i*5+4)+1+1+1+1+1 by omega]
  simpa [Qcf] using this
theorem Qvk (l:List Chn):∀ u∈Qcf l,u.oneCell'=true:=by
 induction l with
 | nil=>intro u hu;cases hu
 | cons p t ih =>
  intro u hu;simp only [Qcf,List.mem_cons] at hu
  rcases hu with rfl|rfl|rfl|rfl|rfl|hu
  · rfl
  · rfl
  · rfl
  · rfl
  · rfl
  · exact ih u hu
def Qig (w:World)(A:Option Addr)(n:Nat)(l:List Chn):Prop :=
 l.length=n∧∀ i x,l[i]?=some x→∃ b o,A=some ⟨b,o,none⟩∧w.cell? ⟨b,o+i*5,none⟩=some (.int .i64 x.1)∧w.cell? ⟨b,o+i*5+1,none⟩=some (.int .i64 x.2.1)∧w.cell? ⟨b,o+i*5+2,none⟩=some (.int .i64 x.2.2.1)∧w.cell? ⟨b,o+i*5+3,none⟩=some (.int .i64 x.2.2.2.1)∧w.cell? ⟨b,o+i*5+4,none⟩=some (.int .i64 x.2.2.2.2)
theorem Qig.at_ {w:World}{A:Option Addr}{n i:Nat}{l:List Chn}(h:Qig w A n l)(hi:i<n) :
 ∃ b o x y z u v,A=some ⟨b,o,none⟩∧l[i]?=some (x,y,z,u,v)∧w.cell? ⟨b,o+i*5,none⟩=some (.int .i64 x)∧w.cell? ⟨b,o+i*5+1,none⟩=some (.int .i64 y)∧w.cell? ⟨b,o+i*5+2,none⟩=some (.int .i64 z)∧w.cell? ⟨b,o+i*5+3,none⟩=some (.int .i64 u)∧w.cell? ⟨b,o+i*5+4,none⟩=some (.int .i64 v):=by
 have hl:i<l.length:=by rw [h.1];exact hi
 obtain ⟨b,o,e,hc⟩:=h.2 i _ (Zg hl);exact ⟨b,o,_,_,_,_,_,e,Zg hl,hc⟩
theorem Qig.le {w w':World}{A:Option Addr}{n:Nat}{l:List Chn}(h:Qig w A n l)(hb:Le w w'):Qig w' A n l :=
 ⟨h.1,fun i x hx=>by
  obtain ⟨b,o,e,h1,h2,h3,h4,h5⟩:=h.2 i x hx;exact ⟨b,o,e,hb _ _ h1,hb _ _ h2,hb _ _ h3,hb _ _ h4,hb _ _ h5⟩⟩
theorem Qig.below {w w':World}{A:Option Addr}{n:Nat}{l:List Chn}(h:Qig w A n l)(hb:Below w.heap.size w w'):Qig w' A n l:=h.le (Le.below hb)
theorem Rds.rdC {w:World}{n:Nat}{A:Option Addr}{l:List Chn} (h:Rds w 5 A n (Qcf l)):Qig w A n l :=
 ⟨by have:=h.1;rw [Qlu] at this;omega,fun i p hp=>by
  obtain ⟨h1,h2,h3,h4,h5⟩:=Qlw hp;obtain ⟨b,o,e,c1⟩:=h.2 _ _ h1;obtain ⟨b',o',e',c2⟩:=h.2 _ _ h2;rw [e] at e';cases e'
  obtain ⟨b',o',e',c3⟩:=h.2 _ _ h3;rw [e] at e';cases e'
  obtain ⟨b',o',e',c4⟩:=h.2 _ _ h4;rw [e] at e';cases e'
  obtain ⟨b',o',e',c5⟩:=h.2 _ _ h5;rw [e] at e';cases e'
  exact ⟨b,o,e,c1,by rw [Nat.add_assoc];exact c2,by rw [Nat.add_assoc];exact c3,by rw [Nat.add_assoc];exact c4,by rw [Nat.add_assoc];exact c5⟩⟩
/-! rows of rows of marks -/
def RdQ (w:World)(A:Option Addr)(n:Nat) (ls:List (List Bool)):Prop :=
 ls.length=n∧∀ i l,ls[i]?=some l→∃ b o A' n' c',A=some ⟨b,o,none⟩∧w.cell? ⟨b,o+i,none⟩=some (.slice A' n' c')∧RdB w A' n' l∧n'≤c'∧c'≤9223372036854775807
theorem RdQ.at_ {w:World}{A:Option Addr}{n i:Nat} {ls:List (List Bool)} (h:RdQ w A n ls) (hi:i<n) :
 ∃ b o A' n' c' l,A=some ⟨b,o,none⟩∧ls[i]?=some l∧w.cell? ⟨b,o+i,none⟩=some (.slice A' n' c')∧RdB w A' n' l∧n'≤c'∧c'≤9223372036854775807:=by
 have hl:i<ls.length:=by rw [h.1];exact hi
 obtain ⟨b,o,A',n',c',h1,h2,h3,h4,h5⟩:=h.2 i _ (Zg hl);exact ⟨b,o,A',n',c',_,h1,Zg hl,h2,h3,h4,h5⟩
theorem RdQ.below {w w':World}{A:Option Addr}{n:Nat} {ls:List (List Bool)} (h:RdQ w A n ls) (hb:Below w.heap.size w w'):RdQ w' A n ls :=
 ⟨h.1,fun i l hl=>by
  obtain ⟨b,o,A',n',c',h1,h2,h3,h4,h5⟩:=h.2 i l hl;exact ⟨b,o,A',n',c',h1,Zc hb (Zn _) h2,h3.below hb,h4,h5⟩⟩
structure TlW (W:World) (B T:Nat) (cs:List Value) (bs:List Nat) (rows:List (List Bool)):Prop where
 lo:B≤T
 box:Blk W T 80 cs.toArray
 n:bs.length=rows.length
 at_:∀ (i b:Nat) (r:List Bool),bs[i]?=some b→rows[i]?=some r→cs[i]?=some (.slice (some ⟨b,0,none⟩) r.length r.length)
 row:∀ (i b:Nat) (r:List Bool),bs[i]?=some b→rows[i]?=some r→Blk W b 4 (Qca r)
 blo:∀ b∈bs,B≤b∧b≠T
 nd:bs.Nodup
section
variable {W W':World} {B T:Nat} {cs:List Value} {bs:List Nat} {rows:List (List Bool)}
theorem TlW.get (h:TlW W B T cs bs rows){i:Nat}{r:List Bool} (hr:rows[i]?=some r):∃ b,bs[i]?=some b∧cs[i]?=some (.slice (some ⟨b,0,none⟩) r.length r.length)∧Blk W b 4 (Qca r)∧B≤b∧b≠T:=by
 have hi:=(Zs hr).1;obtain ⟨b,hb⟩:∃ b,bs[i]?=some b:=⟨_,Zg (by rw [h.n];exact hi)⟩;have:=h.blo b (Zm hb);exact ⟨b,hb,h.at_ i b r hb hr,h.row i b r hb hr,this.1,this.2⟩
theorem TlW.cell (h:TlW W B T cs bs rows){i:Nat}{u:Value} (hc:cs[i]?=some u):W.cell? ⟨T,i,none⟩=some u:=by rw [h.box.cell];simpa using hc
theorem TlW.below (h:TlW W B T cs bs rows)(hb:Below W.heap.size W W'):TlW W' B T cs bs rows :=
 ⟨h.lo,h.box.below hb h.box.lt,h.n,h.at_,fun i b r h1 h2=>(h.row i b r h1 h2).below hb (h.row i b r h1 h2).lt,h.blo,h.nd⟩
theorem TlW.rdQ (h:TlW W B T cs bs rows)(hl:∀ r∈rows,r.length≤9223372036854775807):RdQ W (some ⟨T,0,none⟩) rows.length rows :=
 ⟨rfl,fun i r hr=>by
  obtain ⟨b,_,h2,h3,_⟩:=h.get hr;refine ⟨T,0,_,r.length,r.length,rfl,by rw [Yz];exact h.cell h2,?_,Zn _,hl r (Zm hr)⟩;exact h3.rdB rfl⟩
theorem TlW.mark (h:TlW W B T cs bs rows){i b q:Nat}{r:List Bool} (hb:bs[i]?=some b) (hr:rows[i]?=some r) (v:Bool):TlW (W.setCell ⟨b,q,none⟩ (.bool v)) B T cs bs (rows.set i (r.set q v)):=by
 have hlt:=(Zs hr).1;have hbl:=(Zs hb).1;refine ⟨h.lo,?_,by rw [Yq];exact h.n,fun j b' r' h1 h2=>?_,fun j b' r' h1 h2=>?_,h.blo,h.nd⟩
 · exact h.box.far_ (h.blo b (Zm hb)).2.symm _
 · by_cases e:i=j
   · subst e
     rw [Yg hlt] at h2
     cases h2
     rw [Yq];exact h.at_ i b' r h1 hr
   · rw [Yh e] at h2
     exact h.at_ j b' r' h1 h2
 · by_cases e:i=j
   · subst e
     rw [Yg hlt] at h2
     cases h2
     rw [hb] at h1
     cases h1
     exact (h.row i b r hb hr).setB rfl
   · rw [Yh e] at h2
     have hne:b≠b':=fun e2=>by
      subst e2;exact e ((List.getElem?_inj hbl h.nd).1 (hb.trans h1.symm))
     exact (h.row j b' r' h1 h2).far_ (fun e2=>hne e2.symm) _
end
theorem TlW.start {W:World}{B T:Nat}{cs:List Value}(h:Blk W T 80 cs.toArray)(hB:B≤T):TlW W B T cs [] [] :=
 ⟨hB,h,rfl,fun i b r h1=>by simp at h1,fun i b r h1=>by simp at h1,fun b hb=>by simp at hb,by simp⟩
end Go.Proofs.YthoagdpakddbdaaGreatDoor
namespace Go.Proofs.YthoagdpakddbdaaGreatDoor
open Go.RowKit Go.Extern.Stop Go.Stop Go.Extern Go.Proofs.Tryz
abbrev Qrm (c:Int):Value:=.iface 100 (.int .i64 c)
abbrev fltV (b o:Nat):Value:=.iface 99 (.pointer (some ⟨b,o,none⟩))
def Qcm (w:World):Value→List (ByteArray×Int)→Int→Prop
 | v,[],c=>v=Qrm c
 | v,p::ps,c=>∃ b o u,v=fltV b o∧w.cell? ⟨b,o,none⟩=some (.string p.1)∧w.cell? ⟨b,o+1,none⟩=some (.int .i64 p.2)∧w.cell? ⟨b,o+2,none⟩=some u∧Qcm w u ps c
theorem Qcm.below {w w':World}(hb:Below w.heap.size w w'):∀ {ps:List (ByteArray×Int)} {v:Value} {c:Int},Qcm w v ps c→Qcm w' v ps c
 | [],_,_,h=>h
 | _::_,_,_,h=>by
  obtain ⟨b,o,u,h1,h2,h3,h4,h5⟩:=h;exact ⟨b,o,u,h1,Zc hb (Zn _) h2,Zc hb (Zn _) h3,Zc hb (Zn _) h4,Qcm.below hb h5⟩
/-! closed facts -/
theorem Qzs (v:Value)(w:World):(ReflectliteType.typeOf #[.iface 100 v]).run prog w=.ok (.iface 213 (.agg #[.pointer (some ⟨1,100,none⟩)])) w:=by kernel_rfl
def erComp : Array Value → Sem Value := ReflectliteType.method fun t => do Rtype.noPackHeld "Comparable" t; pure (.bool (← typeInfo t).comparable)
theorem Qny (w:World):(erComp #[.agg #[.pointer (some ⟨1,100,none⟩)]]).run prog w=.ok (.bool true) w:=by kernel_rfl
theorem Qli (v : Value) (w : World) : (Go.method 426 213 v "Comparable").run Tryz.prog w = .ok (217, v) w := by kernel_rfl
theorem er_noIs (v:Value)(xT:TypeId)(w:World):(Instr.typeAssert (.iface 100 v) xT 215 true).run prog w=.ok (.tuple #[.nilIface,.bool false]) w:=run_typeAssert_lacksB underlying215 (by kernel_rfl) (by kernel_rfl) v xT w
theorem er_noIsF (v:Value)(xT:TypeId)(w:World):(Instr.typeAssert (.iface 99 v) xT 215 true).run prog w=.ok (.tuple #[.nilIface,.bool false]) w:=run_typeAssert_lacksB underlying215 (by kernel_rfl) (by kernel_rfl) v xT w
theorem Qqq (v:Value)(xT:TypeId)(w:World):(Instr.typeAssert (.iface 100 v) xT 218 true).run prog w=.ok (.tuple #[.nilIface,.bool false]) w:=run_typeAssert_lacksB underlying218 (by kernel_rfl) (by kernel_rfl) v xT w
theorem Qqd (v:Value)(xT:TypeId)(w:World):(Instr.typeAssert (.iface 100 v) xT 220 true).run prog w=.ok (.tuple #[.nilIface,.bool false]) w:=run_typeAssert_lacksB underlying220 (by kernel_rfl) (by kernel_rfl) v xT w
theorem er_noAs (v:Value)(xT:TypeId)(w:World):(Instr.typeAssert (.iface 100 v) xT 225 true).run prog w=.ok (.tuple #[.nilIface,.bool false]) w:=run_typeAssert_lacksB underlying225 (by kernel_rfl) (by kernel_rfl) v xT w
theorem Qni (v:Value)(xT:TypeId)(w:World):(Instr.typeAssert (.iface 99 v) xT 218 true).run prog w=.ok (.tuple #[.iface 99 v,.bool true]) w:=run_typeAssert_hasB underlying218 (by kernel_rfl) v xT w
theorem Qvc (v : Value) (w : World) : (Go.method 426 99 v "Unwrap").run Tryz.prog w = .ok (209, v) w := by kernel_rfl
theorem er_comp:(Tryz.prog.info? 100).map (·.comparable)=some true:=by kernel_rfl
theorem er_eq (a b:Int)(w:World):(binOp .eql 42 (Qrm a) (Qrm b)).run prog w=.ok (.bool (a == b)) w:=Lib.run_eql_iface_int w a b underlying42 er_comp underlying100
theorem er_ne (p:Value)(b:Int)(w:World):(binOp .eql 42 (.iface 99 p) (Qrm b)).run prog w=.ok (.bool false) w:=run_eql_iface_types (P:=prog) 99 100 p (.int .i64 b) underlying42 (by decide) w
theorem Qld {w:World}{v:Value} {ps:List (ByteArray×Int)} {c:Int} (h:Qcm w v ps c):v=Qrm c∧ps=[]∨∃ b o u p t,v=fltV b o∧ps=p::t∧w.cell? ⟨b,o,none⟩=some (.string p.1)∧w.cell? ⟨b,o+1,none⟩=some (.int .i64 p.2)∧w.cell? ⟨b,o+2,none⟩=some u∧Qcm w u t c:=by
 cases ps with
 | nil=>exact .inl ⟨h,rfl⟩
 | cons p t=>obtain ⟨b,o,u,h1,h2,h3,h4,h5⟩:=h;exact .inr ⟨b,o,u,p,t,h1,rfl,h2,h3,h4,h5⟩
theorem Qcb {w:World}{v:Value} {ps:List (ByteArray×Int)} {c:Int} (h:Qcm w v ps c):∃ t x,v=.iface t x:=by
 rcases Qld h with ⟨h,_⟩|⟨b,o,u,p,t,h,_⟩ <;> exact ⟨_,_,h⟩
theorem Qqg {w:World}:∀ {ps qs:List (ByteArray×Int)} {v:Value} {c d:Int},Qcm w v ps c→Qcm w v qs d→ps.length=qs.length
 | [],[],_,_,_,_,_=>rfl
 | [],_::_,_,_,_,h,g=>by obtain ⟨b,o,u,h1,_⟩:=g;unfold Qcm at h;rw [h] at h1;cases h1
 | _::_,[],_,_,_,g,h=>by obtain ⟨b,o,u,h1,_⟩:=g;unfold Qcm at h;rw [h] at h1;cases h1
 | _::_,_::_,_,_,_,h,g=>by
  obtain ⟨b,o,u,h1,_,_,h2,h3⟩:=h;obtain ⟨b',o',u',g1,_,_,g2,g3⟩:=g;rw [h1] at g1
  cases g1
  rw [h2] at g2
  cases g2
  simp [Qqg h3 g3]
noncomputable def Qju (w:World) (v:Value):Nat:=by
 classical exact if h:∃ n c,∃ ps,Qcm w v ps c∧ps.length=n then h.choose else 0
theorem Qro {w:World} {ps:List (ByteArray×Int)} {v:Value} {c:Int} (h:Qcm w v ps c):Qju w v=ps.length:=by
 have hex:∃ n c,∃ ps,Qcm w v ps c∧ps.length=n:=⟨_,c,ps,h,rfl⟩;unfold Qju;rw [dif_pos hex];obtain ⟨d,qs,g,hl⟩:=hex.choose_spec;rw [←hl];exact Qqg g h
theorem Qvf (b o:Nat)(u:Value)(w:World)(h:w.cell? ⟨b,o+2,none⟩=some u) :
 Calls prog 209 #[.pointer (some ⟨b,o,none⟩)] w fun e w'=>e=.returned u∧w'=w:=by
 go_enter func209,ntmps209
 go_wp2
 go_ret
 exact ⟨rfl,rfl⟩
set_option maxHeartbeats 1000000 in
theorem is_loop (v:Value) (ps:List (ByteArray×Int)) (c:Int) (w:World) (h:Qcm w v ps c) :
 Calls prog 81 #[v,Qrm c,.bool true] w fun e w'=>e=.returned (.bool true)∧w'=w:=by
 have nE:=er_noIs;have nF:=er_noIsF;have uF:=Qni;have mU:=Qvc;have heq:=er_eq;have hne:=er_ne;have hCL:∀ (ps:List (ByteArray×Int)) (v:Value) (c:Int),Qcm w v ps c→Qju w v=ps.length:=fun _ _ _ h=>Qro h
 have HCL:=Zh hCL;clear hCL;have HU:∀ (b o:Nat) (u:Value),w.cell? ⟨b,o+2,none⟩=some u→Calls prog 209 #[.pointer (some ⟨b,o,none⟩)] w fun e w'=>e=.returned u∧w'=w:=fun b o u h=>Qvf b o u w h
 have HU':=Zh HU;clear HU
 go_enter func81,ntmps81
 go_wp2
 go_loop [0] (fun i=>∃ qs,Qcm w i qs c) (fun i=>Qju w i)
 case atStart=>exact ⟨ps,h⟩
 case round =>
  obtain ⟨qs,hq⟩:=hrel
  rcases Qld hq with ⟨rfl,rfl⟩|⟨b,o,u,p,t,rfl,rfl,h1,h2,h3,h4⟩
  · clear hq h
    go_wp2
    go_ret
    exact ⟨rfl,rfl⟩
  · obtain ⟨tu,xu,rfl⟩:=Qcb h4
    have e1:=HCL.out _ _ _ hq;have e2:=HCL.out _ _ _ h4;have E1:=Zh e1;clear e1;have E2:=Zh e2;clear e2;have H4:=Zh h4;clear h4;have h3':=h3;clear hq h
    go_wp2_with (go_at_call 209;refine (HU'.out b o _ h3).mono ?_;rintro e w' ⟨rfl,rfl⟩)
    go_round
    case rel=>exact ⟨t,H4.out⟩
    case measure=>rw [E1.out,E2.out];simp
set_option maxHeartbeats 1000000 in
theorem errorsIs (v:Value) (ps:List (ByteArray×Int)) (c:Int) (w:World) (h:Qcm w v ps c) :
 Calls prog 43 #[v,Qrm c] w fun e w'=>e=.returned (.bool true)∧w'=w:=by
 have h10:=@run_callFunc_extern prog 80 _ ReflectliteType.typeOf func80 (by kernel_rfl) (by kernel_rfl) (by kernel_rfl) (by kernel_rfl);have h32:=@run_callFunc_extern prog 217 _ erComp func217 (by kernel_rfl) (by kernel_rfl) (by kernel_rfl) (by kernel_rfl);have tT:=Qzs;have cT:=Qny;have mR:=Qli;have HL:=Zh (is_loop v ps c w h);obtain ⟨tv,xv,rfl⟩:=Qcb h;clear h
 go_enter func43,ntmps43
 go_wp2_with (go_at_call 81;refine (HL.out).mono ?_;rintro e w' ⟨rfl,rfl⟩)
 go_ret
 exact ⟨rfl,rfl⟩
end Go.Proofs.YthoagdpakddbdaaGreatDoor
namespace Go.Proofs.YthoagdpakddbdaaGreatDoor
open Go.RowKit Go.Extern.Stop Go.Stop Go.Extern Go.Proofs.Tryz
theorem Qsv (z:Sem Value)(f:TypeId→Addr→Nat→Nat→Sem Value)(v:Value) :
 ReflectliteValue.method z f #[v]=(do match ←ReflectliteValue.parts v with|none=>z|some (t,a,fl)=>f t a fl (fl % 32)):=rfl
theorem as_rls (v x:Value):ReflectliteValue.set #[v,x]=(do
 let (some (dst,a,fl),some (src,b,_)):=(←ReflectliteValue.parts v,←ReflectliteValue.parts x)
  | unsupported (.noEntry "extern/(internal/reflectlite.Value).Set.zeroValue")
 if fl / ReflectliteValue.flagAddr % 2 == 0 then unsupported (.noEntry "extern/(internal/reflectlite.Value).Set.unaddressable")
 let val ←loadVar src b
 if ←Rtype.directlyAssignable dst src then storeVar dst a val
 else if ←Rtype.implements dst src then
  if (←Rtype.kind src) == 20 then
   match val with
   | .nilIface => unsupported (.noEntry "extern/reflectlite: a nil value of one interface type handed on as a value of another")
   | _=>storeVar dst a val
  else storeVar dst a (.iface src val)
 else panicString ("reflectlite.Set: value of type " ++ (← Rtype.spelt src) ++ " is not assignable to type " ++ (← Rtype.spelt dst))
 pure (.tuple #[])):=rfl
theorem Qnl (h : Value) (w : World) : (Go.method 426 213 (.agg #[h]) "Kind").run Tryz.prog w = .ok (204, h) w := by kernel_rfl
theorem Qmw (h : Value) (w : World) : (Go.method 426 213 (.agg #[h]) "Elem").run Tryz.prog w = .ok (218, .agg #[h]) w := by kernel_rfl
theorem Qel (h : Value) (w : World) : (Go.method 426 213 (.agg #[h]) "Implements").run Tryz.prog w = .ok (219, .agg #[h]) w := by kernel_rfl
theorem Qdo (h : Value) (w : World) : (Go.method 426 213 (.agg #[h]) "AssignableTo").run Tryz.prog w = .ok (216, .agg #[h]) w := by kernel_rfl
def Qmv:Value:=.iface 213 (.agg #[.pointer (some ⟨1,42,none⟩)])
abbrev rty (t:Nat):Value:=.agg #[.pointer (some ⟨1,t,none⟩)]
abbrev rtv (t:Nat):Value:=.iface 213 (rty t)
abbrev rvl (t:Nat) (a:Addr) (f:Int):Value:=.agg #[.pointer (some ⟨1,t,none⟩),.pointer (some a),.int .u64 f]
abbrev asW (t:Addr) (p:Nat) (w:World):World:=((w.alloc (.cells #[.pointer (some t)] p)).alloc (.cells #[.pointer (some ⟨1,p,none⟩),.pointer (some ⟨w.heap.size,0,none⟩),.int .u64 150] 169))
abbrev asX (t:Addr) (p:Nat) (w:World):World:=(asW t p w).alloc (.cells #[.pointer (some ⟨1,p,none⟩),.pointer (some ⟨w.heap.size,0,none⟩),.int .u64 150] 169)
/-! ### at **api.Fault -/
theorem Qja (t:Addr)(w:World):(ReflectliteValue.unpack (.iface 109 (.pointer (some t)))).run prog w=.ok (rvl 109 ⟨w.heap.size,0,none⟩ 150) (w.alloc (.cells #[.pointer (some t)] 109)):=by kernel_rfl
theorem Qpp (a : Addr) (w : World) : (ReflectliteValue.methodAny (ReflectliteValue.valueError "reflectlite.Value.Type" 0) (fun t _ _ _ => ReflectliteType.toType t) #[rvl 109 a 150]).run Tryz.prog w = .ok (rtv 109) w := by kernel_rfl
theorem Qop (w:World):((ReflectliteType.abiMethod fun t=>(fun a:Nat=>Value.int IntKind.u8 (a:Int)) <$> Rtype.kind t) #[.pointer (some ⟨1,109,none⟩)]).run prog w=.ok (.int .u8 22) w:=by kernel_rfl
theorem Qtj (w:World):((ReflectliteType.abiMethod fun t=>(fun a:Nat=>Value.int IntKind.u8 (a:Int)) <$> Rtype.kind t) #[.pointer (some ⟨1,99,none⟩)]).run prog w=.ok (.int .u8 22) w:=by kernel_rfl
theorem Qmf (a:Addr)(w:World):(ReflectliteValue.parts (rvl 109 a 150)).run prog w=.ok (some (109,a,150)) w:=by kernel_rfl
theorem Qpb (a p:Addr)(W:World) (ha:W.cell? a=some (.pointer (some p))) :
 (ReflectliteValue.method (ReflectliteValue.valueError "reflectlite.Value.IsNil" 0) ReflectliteValue.isNil #[rvl 109 a 150]).run Tryz.prog W = .ok (.bool false) W := by
 rw [Qsv];simp only [Sem.run_bind,Qmf,Result.andThen];simp [ReflectliteValue.isNil,loadVar,isAgg,underlying,underlying109,ha,Result.andThen]
theorem Qsw (w:World):(ReflectliteType.method ReflectliteType.elem #[rty 109]).run prog w=.ok (rtv 99) w:=by kernel_rfl
theorem Qgs (w : World) : (ReflectliteType.relation "Implements" ReflectliteType.implements_ #[rty 99, Qmv]).run Tryz.prog w = .ok (.bool true) w := by kernel_rfl
theorem Qtt (w:World):(Rtype.elem? 109).run prog w=.ok (some 99) w:=by kernel_rfl
theorem as_mkF (p:Addr)(w:World):(ReflectliteValue.mk 99 p ReflectliteValue.flagAddr).run prog w=.ok (rvl 99 p 406) w:=by kernel_rfl
theorem Qxf (a p:Addr)(W:World) (ha:W.cell? a=some (.pointer (some p))) :
 (ReflectliteValue.method (ReflectliteValue.valueError "reflectlite.Value.Elem" 0) ReflectliteValue.elem #[rvl 109 a 150]).run Tryz.prog W = .ok (rvl 99 p 406) W := by
 rw [Qsv];simp only [Sem.run_bind,Qmf,Result.andThen];simp [ReflectliteValue.elem,loadVar,isAgg,underlying,underlying109,ha,Result.andThen,Qtt,as_mkF]
theorem Quy (v:Value)(w:World):(ReflectliteType.typeOf #[.iface 99 v]).run prog w=.ok (rtv 99) w:=by kernel_rfl
theorem Qll (w : World) : (ReflectliteType.relation "AssignableTo" ReflectliteType.assignableTo #[rty 99, rtv 99]).run Tryz.prog w = .ok (.bool true) w := by kernel_rfl
theorem Qrf (e:Addr)(w:World):(ReflectliteValue.unpack (.iface 99 (.pointer (some e)))).run prog w=.ok (rvl 99 ⟨w.heap.size,0,none⟩ 150) (w.alloc (.cells #[.pointer (some e)] 99)):=by kernel_rfl
theorem Qva (a:Addr)(w:World):(ReflectliteValue.parts (rvl 99 a 406)).run prog w=.ok (some (99,a,406)) w:=by kernel_rfl
theorem Qzo (a:Addr)(w:World):(ReflectliteValue.parts (rvl 99 a 150)).run prog w=.ok (some (99,a,150)) w:=by kernel_rfl
theorem Qvx (w:World):(Rtype.directlyAssignable 99 99).run prog w=.ok true w:=by kernel_rfl
theorem as_setF (ta b:Addr)(e:Addr)(old:Value)(W:World) (hb:W.cell? b=some (.pointer (some e))) (ht:W.cell? ta=some old) (hf:W.frozen? ta=false) :
 (ReflectliteValue.set #[rvl 99 ta 406,rvl 99 b 150]).run prog W=.ok (.tuple #[]) (W.setCell ta (.pointer (some e))):=by
 rw [as_rls];simp only [Sem.run_bind,Qva,Qzo,Result.andThen];simp [ReflectliteValue.flagAddr,loadVar,isAgg,underlying,underlying99,hb,Result.andThen,Qvx,storeVar,Value.cells,storeCells,Addr.add];rw [run_store prog W ta _ _ (by rfl)];simp [ht,hf]
/-! ### at *api.Errno -/
theorem Qow (t:Addr)(w:World):(ReflectliteValue.unpack (.iface 112 (.pointer (some t)))).run prog w=.ok (rvl 112 ⟨w.heap.size,0,none⟩ 150) (w.alloc (.cells #[.pointer (some t)] 112)):=by kernel_rfl
theorem Qza (a : Addr) (w : World) : (ReflectliteValue.methodAny (ReflectliteValue.valueError "reflectlite.Value.Type" 0) (fun t _ _ _ => ReflectliteType.toType t) #[rvl 112 a 150]).run Tryz.prog w = .ok (rtv 112) w := by kernel_rfl
theorem Qyc (w:World):((ReflectliteType.abiMethod fun t=>(fun a:Nat=>Value.int IntKind.u8 (a:Int)) <$> Rtype.kind t) #[.pointer (some ⟨1,112,none⟩)]).run prog w=.ok (.int .u8 22) w:=by kernel_rfl
theorem as_kindE (w:World):((ReflectliteType.abiMethod fun t=>(fun a:Nat=>Value.int IntKind.u8 (a:Int)) <$> Rtype.kind t) #[.pointer (some ⟨1,100,none⟩)]).run prog w=.ok (.int .u8 2) w:=by kernel_rfl
theorem Qmm (a:Addr)(w:World):(ReflectliteValue.parts (rvl 112 a 150)).run prog w=.ok (some (112,a,150)) w:=by kernel_rfl
theorem Qzk (a p:Addr)(W:World) (ha:W.cell? a=some (.pointer (some p))) :
 (ReflectliteValue.method (ReflectliteValue.valueError "reflectlite.Value.IsNil" 0) ReflectliteValue.isNil #[rvl 112 a 150]).run Tryz.prog W = .ok (.bool false) W := by
 rw [Qsv];simp only [Sem.run_bind,Qmm,Result.andThen];simp [ReflectliteValue.isNil,loadVar,isAgg,underlying,underlying112,ha,Result.andThen]
theorem as_elemE (w:World):(ReflectliteType.method ReflectliteType.elem #[rty 112]).run prog w=.ok (rtv 100) w:=by kernel_rfl
theorem Qlp (w : World) : (ReflectliteType.relation "Implements" ReflectliteType.implements_ #[rty 100, Qmv]).run Tryz.prog w = .ok (.bool true) w := by kernel_rfl
theorem Qvw (w:World):(Rtype.elem? 112).run prog w=.ok (some 100) w:=by kernel_rfl
theorem as_mkE (p:Addr)(w:World):(ReflectliteValue.mk 100 p ReflectliteValue.flagAddr).run prog w=.ok (rvl 100 p 386) w:=by kernel_rfl
theorem Qwy (a p:Addr)(W:World) (ha:W.cell? a=some (.pointer (some p))) :
 (ReflectliteValue.method (ReflectliteValue.valueError "reflectlite.Value.Elem" 0) ReflectliteValue.elem #[rvl 112 a 150]).run Tryz.prog W = .ok (rvl 100 p 386) W := by
 rw [Qsv];simp only [Sem.run_bind,Qmm,Result.andThen];simp [ReflectliteValue.elem,loadVar,isAgg,underlying,underlying112,ha,Result.andThen,Qvw,as_mkE]
theorem Qlt (v:Value)(w:World):(ReflectliteType.typeOf #[.iface 100 v]).run prog w=.ok (rtv 100) w:=by kernel_rfl
theorem Qlh (w : World) : (ReflectliteType.relation "AssignableTo" ReflectliteType.assignableTo #[rty 100, rtv 100]).run Tryz.prog w = .ok (.bool true) w := by kernel_rfl
theorem Qrg (c:Int)(w:World):(ReflectliteValue.unpack (.iface 100 (.int .i64 c))).run prog w=.ok (rvl 100 ⟨w.heap.size,0,none⟩ 130) (w.alloc (.cells #[.int .i64 c] 100)):=by kernel_rfl
theorem Qvb (a:Addr)(w:World):(ReflectliteValue.parts (rvl 100 a 386)).run prog w=.ok (some (100,a,386)) w:=by kernel_rfl
theorem Qzj (a:Addr)(w:World):(ReflectliteValue.parts (rvl 100 a 130)).run prog w=.ok (some (100,a,130)) w:=by kernel_rfl
theorem Qum (w:World):(Rtype.directlyAssignable 100 100).run prog w=.ok true w:=by kernel_rfl
theorem as_setE (ta b:Addr)(c:Int)(old:Value)(W:World) (hb:W.cell? b=some (.int .i64 c)) (ht:W.cell? ta=some old) (hf:W.frozen? ta=false) :
 (ReflectliteValue.set #[rvl 100 ta 386,rvl 100 b 130]).run prog W=.ok (.tuple #[]) (W.setCell ta (.int .i64 c)):=by
 rw [as_rls];simp only [Sem.run_bind,Qvb,Qzj,Result.andThen];simp [ReflectliteValue.flagAddr,loadVar,isAgg,underlying,underlying100,hb,Result.andThen,Qum,storeVar,Value.cells,storeCells,Addr.add];rw [run_store prog W ta _ _ (by rfl)];simp [ht,hf]
set_option maxHeartbeats 4000000 in
theorem as_hitF (e:Addr)(t:Addr)(old:Value)(w:World)(hg:w.cell? ⟨0,0,none⟩=some Qmv)(ht0:w.cell? t=some old)(hf0:w.frozen? t=false) :
 Calls prog 44 #[.iface 99 (.pointer (some e)),.iface 109 (.pointer (some t))] w fun ev w'=>ev=.returned (.bool true)∧w'=((asX t 109 w).alloc (.cells #[.pointer (some e)] 99)).setCell t (.pointer (some e)):=by
 have h6:=@run_callFunc_extern prog 82 _ (fun args=>ReflectliteValue.unpack (args.getD 0 (.tuple #[]))) func82 (by kernel_rfl) (by kernel_rfl) (by kernel_rfl) (by kernel_rfl)
 have h7 := @run_callFunc_extern Tryz.prog 83 _ (ReflectliteValue.methodAny (ReflectliteValue.valueError "reflectlite.Value.Type" 0) (fun t _ _ _ => ReflectliteType.toType t)) Tryz.func83 (by kernel_rfl) (by kernel_rfl) (by kernel_rfl) (by kernel_rfl)
 have h8 := @run_callFunc_extern Tryz.prog 84 _ (ReflectliteValue.method (ReflectliteValue.valueError "reflectlite.Value.IsNil" 0) ReflectliteValue.isNil) Tryz.func84 (by kernel_rfl) (by kernel_rfl) (by kernel_rfl) (by kernel_rfl)
 have h27:=@run_callFunc_extern prog 204 _ (ReflectliteType.abiMethod fun t=>do pure (.int .u8 (←Rtype.kind t))) func204 (by kernel_rfl) (by kernel_rfl) (by kernel_rfl) (by kernel_rfl);have h37:=@run_callFunc_extern prog 218 _ (ReflectliteType.method ReflectliteType.elem) func218 (by kernel_rfl) (by kernel_rfl) (by kernel_rfl) (by kernel_rfl)
 have h38 := @run_callFunc_extern Tryz.prog 219 _ (ReflectliteType.relation "Implements" ReflectliteType.implements_) Tryz.func219 (by kernel_rfl) (by kernel_rfl) (by kernel_rfl) (by kernel_rfl)
 have h10:=@run_callFunc_extern prog 80 _ ReflectliteType.typeOf func80 (by kernel_rfl) (by kernel_rfl) (by kernel_rfl) (by kernel_rfl)
 have h35 := @run_callFunc_extern Tryz.prog 216 _ (ReflectliteType.relation "AssignableTo" ReflectliteType.assignableTo) Tryz.func216 (by kernel_rfl) (by kernel_rfl) (by kernel_rfl) (by kernel_rfl)
 have h11 := @run_callFunc_extern Tryz.prog 117 _ (ReflectliteValue.method (ReflectliteValue.valueError "reflectlite.Value.Elem" 0) ReflectliteValue.elem) Tryz.func117 (by kernel_rfl) (by kernel_rfl) (by kernel_rfl) (by kernel_rfl)
 have h12:=@run_callFunc_extern prog 118 _ ReflectliteValue.set func118 (by kernel_rfl) (by kernel_rfl) (by kernel_rfl) (by kernel_rfl);have mA:=Qdo;have mK:=Qnl;have mE:=Qmw;have mI:=Qel;have tO:=Quy;have aS:=Qll;have vO:=Qrf;have f6:=Qja;have f7:=Qpp;have kP:=Qop;have kE:=Qtj;have eL:=Qsw;have iM:=Qgs;have n8:=Qpb ⟨w.heap.size,0,none⟩ t (asW t 109 w) (by simp);have hlt:0<w.heap.size:=Qae hg
 have htl:t.block<w.heap.size:=Qae ht0
 have hg2:(asW t 109 w).cell? ⟨0,0,none⟩=some Qmv:=by
  rw [World.cell?_alloc_lt _ _ ⟨0,0,none⟩ (by simp),World.cell?_alloc_lt _ _ ⟨0,0,none⟩ hlt];exact hg
 have el:=Qxf ⟨w.heap.size,0,none⟩ t (asX t 109 w) (by rw [World.cell?_alloc_lt _ _ ⟨w.heap.size,0,none⟩ (by simp;omega)];simp)
 have st:=as_setF t ⟨w.heap.size+1+1+1,0,none⟩ e old ((asX t 109 w).alloc (.cells #[.pointer (some e)] 99))
  (by rw [World.cell?_alloc_at _ _ _ _ (by simp)];rfl)
  (by rw [World.cell?_alloc_lt _ _ t (by simp;omega),World.cell?_alloc_lt _ _ t (by simp;omega),World.cell?_alloc_lt _ _ t (by simp;omega),World.cell?_alloc_lt _ _ t htl];exact ht0)
  (by rw [World.frozen?_alloc_old _ _ t (by simp;omega),World.frozen?_alloc_old _ _ t (by simp;omega),World.frozen?_alloc_old _ _ t (by simp;omega),World.frozen?_alloc_old _ _ t (Nat.ne_of_lt htl)];exact hf0)
 go_enter func44,ntmps44
 go_wp2
 refine wp_loop_rounds 1 ?_;rw [rounds_succ]
 go_wp2
 go_ret
 exact ⟨rfl,rfl⟩
set_option maxHeartbeats 4000000 in
theorem as_hitE (c:Int)(t:Addr)(old:Value)(w:World)(hg:w.cell? ⟨0,0,none⟩=some Qmv)(ht0:w.cell? t=some old)(hf0:w.frozen? t=false) :
 Calls prog 44 #[.iface 100 (.int .i64 c),.iface 112 (.pointer (some t))] w fun ev w'=>ev=.returned (.bool true)∧w'=((asX t 112 w).alloc (.cells #[.int .i64 c] 100)).setCell t (.int .i64 c):=by
 have h6:=@run_callFunc_extern prog 82 _ (fun args=>ReflectliteValue.unpack (args.getD 0 (.tuple #[]))) func82 (by kernel_rfl) (by kernel_rfl) (by kernel_rfl) (by kernel_rfl)
 have h7 := @run_callFunc_extern Tryz.prog 83 _ (ReflectliteValue.methodAny (ReflectliteValue.valueError "reflectlite.Value.Type" 0) (fun t _ _ _ => ReflectliteType.toType t)) Tryz.func83 (by kernel_rfl) (by kernel_rfl) (by kernel_rfl) (by kernel_rfl)
 have h8 := @run_callFunc_extern Tryz.prog 84 _ (ReflectliteValue.method (ReflectliteValue.valueError "reflectlite.Value.IsNil" 0) ReflectliteValue.isNil) Tryz.func84 (by kernel_rfl) (by kernel_rfl) (by kernel_rfl) (by kernel_rfl)
 have h27:=@run_callFunc_extern prog 204 _ (ReflectliteType.abiMethod fun t=>do pure (.int .u8 (←Rtype.kind t))) func204 (by kernel_rfl) (by kernel_rfl) (by kernel_rfl) (by kernel_rfl);have h37:=@run_callFunc_extern prog 218 _ (ReflectliteType.method ReflectliteType.elem) func218 (by kernel_rfl) (by kernel_rfl) (by kernel_rfl) (by kernel_rfl)
 have h38 := @run_callFunc_extern Tryz.prog 219 _ (ReflectliteType.relation "Implements" ReflectliteType.implements_) Tryz.func219 (by kernel_rfl) (by kernel_rfl) (by kernel_rfl) (by kernel_rfl)
 have h10:=@run_callFunc_extern prog 80 _ ReflectliteType.typeOf func80 (by kernel_rfl) (by kernel_rfl) (by kernel_rfl) (by kernel_rfl)
 have h35 := @run_callFunc_extern Tryz.prog 216 _ (ReflectliteType.relation "AssignableTo" ReflectliteType.assignableTo) Tryz.func216 (by kernel_rfl) (by kernel_rfl) (by kernel_rfl) (by kernel_rfl)
 have h11 := @run_callFunc_extern Tryz.prog 117 _ (ReflectliteValue.method (ReflectliteValue.valueError "reflectlite.Value.Elem" 0) ReflectliteValue.elem) Tryz.func117 (by kernel_rfl) (by kernel_rfl) (by kernel_rfl) (by kernel_rfl)
 have h12:=@run_callFunc_extern prog 118 _ ReflectliteValue.set func118 (by kernel_rfl) (by kernel_rfl) (by kernel_rfl) (by kernel_rfl);have mA:=Qdo;have mK:=Qnl;have mE:=Qmw;have mI:=Qel;have tO:=Qlt;have aS:=Qlh;have vO:=Qrg;have f6:=Qow;have f7:=Qza;have kP:=Qyc;have kE:=as_kindE;have eL:=as_elemE;have iM:=Qlp;have n8:=Qzk ⟨w.heap.size,0,none⟩ t (asW t 112 w) (by simp);have hlt:0<w.heap.size:=Qae hg
 have htl:t.block<w.heap.size:=Qae ht0
 have hg2:(asW t 112 w).cell? ⟨0,0,none⟩=some Qmv:=by
  rw [World.cell?_alloc_lt _ _ ⟨0,0,none⟩ (by simp),World.cell?_alloc_lt _ _ ⟨0,0,none⟩ hlt];exact hg
 have el:=Qwy ⟨w.heap.size,0,none⟩ t (asX t 112 w) (by rw [World.cell?_alloc_lt _ _ ⟨w.heap.size,0,none⟩ (by simp;omega)];simp)
 have st:=as_setE t ⟨w.heap.size+1+1+1,0,none⟩ c old ((asX t 112 w).alloc (.cells #[.int .i64 c] 100))
  (by rw [World.cell?_alloc_at _ _ _ _ (by simp)];rfl)
  (by rw [World.cell?_alloc_lt _ _ t (by simp;omega),World.cell?_alloc_lt _ _ t (by simp;omega),World.cell?_alloc_lt _ _ t (by simp;omega),World.cell?_alloc_lt _ _ t htl];exact ht0)
  (by rw [World.frozen?_alloc_old _ _ t (by simp;omega),World.frozen?_alloc_old _ _ t (by simp;omega),World.frozen?_alloc_old _ _ t (by simp;omega),World.frozen?_alloc_old _ _ t (Nat.ne_of_lt htl)];exact hf0)
 go_enter func44,ntmps44
 go_wp2
 refine wp_loop_rounds 1 ?_;rw [rounds_succ]
 go_wp2
 go_ret
 exact ⟨rfl,rfl⟩
theorem Qlm (w : World) : (ReflectliteType.relation "AssignableTo" ReflectliteType.assignableTo #[rty 100, rtv 99]).run Tryz.prog w = .ok (.bool false) w := by kernel_rfl
set_option maxHeartbeats 4000000 in
theorem as_miss (c:Int)(t:Addr)(w:World)(hg:w.cell? ⟨0,0,none⟩=some Qmv) :
 Calls prog 44 #[Qrm c,.iface 109 (.pointer (some t))] w fun ev w'=>ev=.returned (.bool false)∧w'=asX t 109 w:=by
 have h6:=@run_callFunc_extern prog 82 _ (fun args=>ReflectliteValue.unpack (args.getD 0 (.tuple #[]))) func82 (by kernel_rfl) (by kernel_rfl) (by kernel_rfl) (by kernel_rfl)
 have h7 := @run_callFunc_extern Tryz.prog 83 _ (ReflectliteValue.methodAny (ReflectliteValue.valueError "reflectlite.Value.Type" 0) (fun t _ _ _ => ReflectliteType.toType t)) Tryz.func83 (by kernel_rfl) (by kernel_rfl) (by kernel_rfl) (by kernel_rfl)
 have h8 := @run_callFunc_extern Tryz.prog 84 _ (ReflectliteValue.method (ReflectliteValue.valueError "reflectlite.Value.IsNil" 0) ReflectliteValue.isNil) Tryz.func84 (by kernel_rfl) (by kernel_rfl) (by kernel_rfl) (by kernel_rfl)
 have h27:=@run_callFunc_extern prog 204 _ (ReflectliteType.abiMethod fun t=>do pure (.int .u8 (←Rtype.kind t))) func204 (by kernel_rfl) (by kernel_rfl) (by kernel_rfl) (by kernel_rfl);have h37:=@run_callFunc_extern prog 218 _ (ReflectliteType.method ReflectliteType.elem) func218 (by kernel_rfl) (by kernel_rfl) (by kernel_rfl) (by kernel_rfl)
 have h38 := @run_callFunc_extern Tryz.prog 219 _ (ReflectliteType.relation "Implements" ReflectliteType.implements_) Tryz.func219 (by kernel_rfl) (by kernel_rfl) (by kernel_rfl) (by kernel_rfl)
 have h10:=@run_callFunc_extern prog 80 _ ReflectliteType.typeOf func80 (by kernel_rfl) (by kernel_rfl) (by kernel_rfl) (by kernel_rfl)
 have h35 := @run_callFunc_extern Tryz.prog 216 _ (ReflectliteType.relation "AssignableTo" ReflectliteType.assignableTo) Tryz.func216 (by kernel_rfl) (by kernel_rfl) (by kernel_rfl) (by kernel_rfl)
 have h11 := @run_callFunc_extern Tryz.prog 117 _ (ReflectliteValue.method (ReflectliteValue.valueError "reflectlite.Value.Elem" 0) ReflectliteValue.elem) Tryz.func117 (by kernel_rfl) (by kernel_rfl) (by kernel_rfl) (by kernel_rfl)
 have h12:=@run_callFunc_extern prog 118 _ ReflectliteValue.set func118 (by kernel_rfl) (by kernel_rfl) (by kernel_rfl) (by kernel_rfl);have mA:=Qdo;have mK:=Qnl;have mE:=Qmw;have mI:=Qel;have tO:=Qlt;have aS:=Qlm;have f6:=Qja;have f7:=Qpp;have kP:=Qop;have kE:=Qtj;have eL:=Qsw;have iM:=Qgs;have nA:=er_noAs;have nU:=Qqq;have nV:=Qqd;have n8:=Qpb ⟨w.heap.size,0,none⟩ t (asW t 109 w) (by simp);have hlt:0<w.heap.size:=Qae hg
 have hg2:(asW t 109 w).cell? ⟨0,0,none⟩=some Qmv:=by
  rw [World.cell?_alloc_lt _ _ ⟨0,0,none⟩ (by simp),World.cell?_alloc_lt _ _ ⟨0,0,none⟩ hlt];exact hg
 go_enter func44,ntmps44
 go_wp2
 refine wp_loop_rounds 1 ?_;rw [rounds_succ]
 go_wp2
 go_ret
 exact ⟨rfl,rfl⟩
end Go.Proofs.YthoagdpakddbdaaGreatDoor
