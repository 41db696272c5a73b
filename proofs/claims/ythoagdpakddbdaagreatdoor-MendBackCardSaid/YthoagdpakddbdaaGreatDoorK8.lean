/- Parts of the proof: InA, Dj, InP, InB, Dk, InQ, LeP. -/
import Derived.Test.YthoagdpakddbdaaGreatDoorK1
import Derived.Test.YthoagdpakddbdaaGreatDoorK7
namespace Go.Proofs.YthoagdpakddbdaaGreatDoor
open Go.RowKit Go.Proofs.Tryz
attribute [local go_sem ↓] Go.wp_at_zero Go.wp_at_succ
theorem Qda.more {W W':World}{G G':Nat→Prop}{g n:Nat}{hp:Nat→Option Int}(h:Qda W G g n hp)(hb:Below W.heap.size W W') (hG:∀ b,G' b→b<W'.heap.size∧(G b∨W.heap.size≤b)):Qda W' G' g n hp:=by
 obtain ⟨A,gc,gs,m,c,R,C,S,h1,h2⟩:=h;exact ⟨A,gc,gs,m,c,R,C,S,h1.more hb hG,h2⟩
theorem Qda.less {W:World}{G G':Nat→Prop}{g n:Nat}{hp:Nat→Option Int}(h:Qda W G g n hp)(hG:∀ b,G' b→G b):Qda W G' g n hp:=by
 obtain ⟨A,gc,gs,m,c,R,C,S,h1,h2⟩:=h;exact ⟨A,gc,gs,m,c,R,C,S,h1.more (Zr _ _) (fun b hb=>⟨h1.lt b (hG b hb),.inl (hG b hb)⟩),h2⟩
theorem Qda.lt {W:World}{G:Nat→Prop}{g n:Nat}{hp:Nat→Option Int}(h:Qda W G g n hp):∀ b,G b→b<W.heap.size:=by
 obtain ⟨A,gc,gs,m,c,R,C,S,h1,h2⟩:=h;exact h1.lt
theorem Qda.set {W:World}{G:Nat→Prop}{g n k i:Nat}{hp:Nat→Option Int}(h:Qda W G g n hp)(hk:G k)(v:Value):Qda (W.setCell ⟨k,i,none⟩ v) G g n hp:=by
 obtain ⟨A,gc,gs,m,c,R,C,S,h1,h2⟩:=h;have hn:∀ b,¬G b→b≠k:=fun b hb e=>hb (e▸hk)
 exact ⟨A,gc,gs,m,c,R,C,S,⟨h1.blk.far_ (hn _ h1.dG.1) _,h1.row.far (Qaa _ _ _ _) (.inr fun e=>(h1.dA k e).2.2.2 hk),h1.cs.far_ (hn _ h1.dG.2.1) _,h1.ss.far_ (hn _ h1.dG.2.2) _,h1.dA,h1.dg,h1.dG,fun b hb=>by simpa [World.setCell] using h1.lt b hb,h1.lr,h1.lc,h1.ls,h1.n0⟩,h2⟩
theorem Le.kept {K:Nat→Prop}{W0 W:World}(h:Qaz K W0 W):Le (msk W0 K) W:=(Qaz.msk h).trans (Qbt _ _)
theorem Aft.mono {G G':Nat→Prop}{a b:World}(h:Aft G a b)(hs:∀ b,G' b→G b):Aft G' a b:=⟨h.kept.mono hs,h.size,fun B hB=>h.bel B (fun b hb=>hs b (hB b hb))⟩
theorem nis_idx (f:Tri→Int)(l:List Tri)(v:Int):∃ bs:List Nat,nis bs=idx f l v∧∀ b∈bs,∃ y,l[b]?=some y∧f y=v:=by
 refine ⟨(idx f l v).map Int.toNat,?_,fun b hb=>?_⟩
 · unfold nis
   rw [List.map_map];refine (List.map_congr_left (g:=id) fun z hz=>?_).trans (List.map_id _);obtain ⟨i,a,rfl,_⟩:=Qpf.1 hz;simp
 · obtain ⟨z,hz,rfl⟩:=List.mem_map.1 hb
   obtain ⟨i,a,rfl,h1,h2⟩:=Qpf.1 hz;exact ⟨a,by simpa using h1,h2⟩
end Go.Proofs.YthoagdpakddbdaaGreatDoor
namespace Go.Proofs.YthoagdpakddbdaaGreatDoor
/-! Least costs over steps; plain. -/
abbrev Qbl:=Nat→Nat→Int→Prop
inductive Rch (St:Qbl) (s:Nat):Nat→Int→Prop
 | start:Rch St s s 0
 | step {p q:Nat} {c d:Int}:Rch St s p c→St p q d→Rch St s q (c+d)
theorem Rch.pos {St:Qbl}(h0:∀ p q d,St p q d→0≤d){s p:Nat}{c:Int}(h:Rch St s p c):0≤c:=by
 induction h with
 | start=>exact Int.le_refl _
 | step _ h2 ih=>have:=h0 _ _ _ h2;omega
theorem Rch.trans {St:Qbl}{s p q:Nat}{c d:Int}(h:Rch St s p c)(g:Rch St p q d):Rch St s q (c+d):=by
 induction g with
 | start=>simpa using h
 | step _ h2 ih=>rw [←Int.add_assoc];exact ih.step h2
theorem Rch.mono {St St':Qbl}(hm:∀ p q d,St p q d→St' p q d){s p:Nat}{c:Int}(h:Rch St s p c):Rch St' s p c:=by
 induction h with
 | start=>exact .start
 | step _ h2 ih=>exact ih.step (hm _ _ _ h2)
def Qtl (St Out:Qbl)(s k:Nat)(v:Int):Prop:=∃ p c d,Rch St s p c∧Out p k d∧v=c+d
def INF:Int:=1152921504606846976
def Lst (P:Int→Prop)(v:Int):Prop:=(P v∧∀ c,P c→v≤c)∨(v=INF∧∀ c,¬P c)
theorem Lst.uniq {P:Int→Prop}{a b:Int}(h:Lst P a)(g:Lst P b):a=b:=by
 rcases h with ⟨h1,h2⟩|⟨h1,h2⟩ <;> rcases g with ⟨g1,g2⟩|⟨g1,g2⟩
 · have:=h2 _ g1;have:=g2 _ h1;omega
 · exact absurd h1 (g2 _)
 · exact absurd g1 (h2 _)
 · rw [h1,g1]
theorem Lst.conv {P Q:Int→Prop}{v:Int}(h:Lst P v)(h1:∀ c,P c→∃ d,Q d∧d≤c)(h2:∀ c,Q c→∃ d,P d∧d≤c):Lst Q v:=by
 rcases h with ⟨hv,hm⟩|⟨hv,hn⟩
 · left
   obtain ⟨d,hd,hle⟩:=h1 v hv;obtain ⟨e,he,hle2⟩:=h2 d hd;have h3:=hm e he;have:d=v:=by omega
   subst this;refine ⟨hd,fun c hc=>?_⟩;obtain ⟨e,he,hle⟩:=h2 c hc;have:=hm e he;omega
 · right
   refine ⟨hv,fun c hc=>?_⟩;obtain ⟨e,he,_⟩:=h2 c hc;exact hn e he
/-! Cells within cells: K p: the kid in which one stands behind p; In: the steps within a kid. -/
structure Qjb (St Out:Qbl) (SK:Qbl) (E:Nat→Nat→Int→Prop) (CSt COut:Qbl) (ins:Nat→Prop) (W:Nat→Int) (T:Nat→Nat→Int→Prop):Prop where
 /-- a step within a kid is a step; what is no such step goes out of the kid, by an arc that is an entry's end -/
 sub:∀ p q d,SK p q d→St p q d
 split:∀ p q d,St p q d→SK p q d∨(ins q∧∃ t,T p q t∧d=t+W q∧0≤W q)
 join:∀ a p q c t,ins a→Rch SK a p c→T p q t→(∃ d,St p q d∧¬SK p q d)→St p q (t+W q)
 /-- coarse steps -/
 cst:∀ a q d,CSt a q d→ins a∧ins q∧∃ v,E a q v∧d=v+W q∧(∃ p c t,Rch SK a p c∧T p q t∧v=c+t∧St p q (t+W q))
 cst2:∀ a p q c t,ins a→Rch SK a p c→T p q t→ins q→St p q (t+W q)→¬SK p q (t+W q)→∃ d,CSt a q d∧d≤c+t+W q
 cout:∀ a k d,COut a k d→∃ p c t,Rch SK a p c∧Out p k t∧d=c+t
 cout2:∀ a p k c t,ins a→Rch SK a p c→Out p k t→∃ d,COut a k d∧d≤c+t
theorem Qjb.up {St Out SK:Qbl}{E:Nat→Nat→Int→Prop}{CSt COut:Qbl}{ins:Nat→Prop}{W:Nat→Int}{T:Nat→Nat→Int→Prop}(h:Qjb St Out SK E CSt COut ins W T)
 {s q:Nat} {c:Int} (hr:Rch CSt s q c):Rch St s q c:=by
 induction hr with
 | start=>exact .start
 | step h1 h2 ih =>
  obtain ⟨_,_,v,_,rfl,p,c',t,h3,h4,rfl,h5⟩:=h.cst _ _ _ h2;have:=(ih.trans (h3.mono h.sub)).step h5;rw [show ∀ a b c d:Int,a+b+(c+d)=a+(b+c+d) from fun a b c d=>by omega] at this
  exact this
theorem Qjb.down {St Out SK:Qbl}{E:Nat→Nat→Int→Prop}{CSt COut:Qbl}{ins:Nat→Prop}{W:Nat→Int}{T:Nat→Nat→Int→Prop}(h:Qjb St Out SK E CSt COut ins W T)
 (hsk:∀ p q d,St p q d→SK p q d∨¬SK p q d) {s q:Nat} {c:Int} (hs:ins s) (hr:Rch St s q c):∃ a c1 c2,ins a∧Rch CSt s a c1∧Rch SK a q c2∧c1+c2≤c:=by
 induction hr with
 | start=>exact ⟨s,0,0,hs,.start,.start,by omega⟩
 | @step p q c d h1 h2 ih =>
  obtain ⟨a,c1,c2,ha,g1,g2,g3⟩:=ih
  rcases hsk _ _ _ h2 with hk|hk
  · exact ⟨a,c1,c2+d,ha,g1,g2.step hk,by omega⟩
  · rcases h.split _ _ _ h2 with hk'|⟨hq,t,ht,rfl,hw⟩
    · exact absurd hk' hk
    · obtain ⟨e,he,hle⟩:=h.cst2 a p q c2 t ha g2 ht hq h2 hk
      exact ⟨q,c1+e,0,hq,g1.step he,.start,by omega⟩
theorem Qjb.same {St Out SK:Qbl}{E:Nat→Nat→Int→Prop}{CSt COut:Qbl}{ins:Nat→Prop}{W:Nat→Int}{T:Nat→Nat→Int→Prop}(h:Qjb St Out SK E CSt COut ins W T)
 (hsk:∀ p q d,St p q d→SK p q d∨¬SK p q d) {s k:Nat} {v:Int} (hs:ins s) (hl:Lst (Qtl CSt COut s k) v):Lst (Qtl St Out s k) v:=by
 refine hl.conv (fun c hc=>?_) (fun c hc=>?_)
 · obtain ⟨a,c1,d,h1,h2,rfl⟩:=hc
   obtain ⟨p,c2,t,h3,h4,rfl⟩:=h.cout _ _ _ h2;exact ⟨_,⟨p,c1+c2,t,(h.up h1).trans (h3.mono h.sub),h4,rfl⟩,by omega⟩
 · obtain ⟨p,c1,t,h1,h2,rfl⟩:=hc
   obtain ⟨a,e1,e2,ha,g1,g2,g3⟩:=h.down hsk hs h1;obtain ⟨d,hd,hle⟩:=h.cout2 a p k e2 t ha g2 h2;exact ⟨_,⟨a,e1,d,g1,hd,rfl⟩,by omega⟩
/-! The least first. -/
structure Dij (St:Qbl) (s:Nat) (dn:Nat→Option Int) (hp:Nat→Option Int):Prop where
 dr:∀ p c,dn p=some c→Rch St s p c
 dm:∀ p c,dn p=some c→∀ e,Rch St s p e→c≤e
 hr:∀ p c,hp p=some c→Rch St s p c
 off:∀ p c,dn p=some c→hp p=none
 on:∀ p c q d,dn p=some c→St p q d→(∃ e,dn q=some e∧e≤c+d)∨(∃ e,hp q=some e∧e≤c+d)
 st:dn s≠none∨∃ e,hp s=some e∧e≤0
theorem Dij.wait {St:Qbl}{s:Nat}{dn hp:Nat→Option Int}(h:Dij St s dn hp)(h0:∀ p q d,St p q d→0≤d){p:Nat}{c:Int}(hr:Rch St s p c):(∃ e,dn p=some e∧e≤c)∨∃ q e,hp q=some e∧e≤c:=by
 induction hr with
 | start =>
  rcases h.st with h1|⟨e,h1,h2⟩
  · left
    cases hd:dn s with
    | none=>exact absurd hd h1
    | some e=>exact ⟨e,rfl,h.dm s e hd 0 .start⟩
  · exact .inr ⟨s,e,h1,h2⟩
 | @step p q c d h1 h2 ih =>
  have hd:=h0 _ _ _ h2
  rcases ih with ⟨e,h3,h4⟩|⟨r,e,h3,h4⟩
  · rcases h.on p e q d h3 h2 with ⟨f,h5,h6⟩|⟨f,h5,h6⟩
    · exact .inl ⟨f,h5,by omega⟩
    · exact .inr ⟨q,f,h5,by omega⟩
  · exact .inr ⟨r,e,h3,by omega⟩
theorem Dij.least {St:Qbl}{s:Nat}{dn hp:Nat→Option Int}(h:Dij St s dn hp)(h0:∀ p q d,St p q d→0≤d){p:Nat}{c:Int}(hp1:hp p=some c)(hm:∀ q e,hp q=some e→c≤e):∀ e,Rch St s p e→c≤e:=by
 intro e hr
 rcases h.wait h0 hr with ⟨f,h1,_⟩|⟨q,f,h1,h2⟩
 · have:=h.off p f h1
   rw [hp1] at this
   cases this
 · have:=hm q f h1
   omega
theorem Dij.all {St:Qbl}{s:Nat}{dn hp:Nat→Option Int}(h:Dij St s dn hp)(h0:∀ p q d,St p q d→0≤d)(he:∀ q,hp q=none){p:Nat}{c:Int}(hr:Rch St s p c):∃ e,dn p=some e∧e≤c:=by
 rcases h.wait h0 hr with h1|⟨q,e,h1,_⟩
 · exact h1
 · rw [he q] at h1;cases h1
structure Qto (St:Qbl) (s:Nat) (dn hp:Nat→Option Int) (p:Nat) (c:Int) (Gone:Nat→Int→Prop):Prop where
 dr:∀ q e,dn q=some e→Rch St s q e
 dm:∀ q e,dn q=some e→∀ f,Rch St s q f→e≤f
 hr:∀ q e,hp q=some e→Rch St s q e
 off:∀ q e,dn q=some e→hp q=none
 on:∀ q e r d,dn q=some e→St q r d→(q=p∧¬Gone r d)∨(∃ f,dn r=some f∧f≤e+d)∨(∃ f,hp r=some f∧f≤e+d)
 st:dn s≠none∨∃ e,hp s=some e∧e≤0
 at_:dn p=some c
theorem Dij.take {St:Qbl}{s:Nat}{dn hp:Nat→Option Int}(h:Dij St s dn hp)(h0:∀ p q d,St p q d→0≤d){p:Nat}{c:Int}(hp1:hp p=some c)(hm:∀ q e,hp q=some e→c≤e) :
 Qto St s (fun q=>if q=p then some c else dn q) (fun q=>if q=p then none else hp q) p c (fun _ _=>False) where
 dr:=fun q e he=>by
  by_cases hq:q=p
  · subst hq;simp at he;subst he;exact h.hr q c hp1
  · simp [hq] at he;exact h.dr q e he
 dm:=fun q e he f hf=>by
  by_cases hq:q=p
  · subst hq;simp at he;subst he;exact h.least h0 hp1 hm f hf
  · simp [hq] at he;exact h.dm q e he f hf
 hr:=fun q e he=>by
  by_cases hq:q=p
  · simp [hq] at he
  · simp [hq] at he;exact h.hr q e he
 off:=fun q e he=>by
  by_cases hq:q=p
  · simp [hq]
  · simp [hq] at he ⊢;exact h.off q e he
 on:=fun q e r d he hs=>by
  by_cases hq:q=p
  · exact .inl ⟨hq,fun h=>h⟩
  · simp [hq] at he
    right
    rcases h.on q e r d he hs with ⟨f,h1,h2⟩|⟨f,h1,h2⟩
    · by_cases hr:r=p
      · subst hr
        have:=h.off r f h1;rw [hp1] at this
        cases this
      · exact .inl ⟨f,by simp [hr,h1],h2⟩
    · by_cases hr:r=p
      · subst hr
        rw [hp1] at h1
        cases h1
        exact .inl ⟨c,by simp,h2⟩
      · exact .inr ⟨f,by simp [hr,h1],h2⟩
 st:=by
  by_cases hs:s=p
  · left;simp [hs]
  · rcases h.st with h1|⟨e,h1,h2⟩
    · left;simpa [hs] using h1
    · right;exact ⟨e,by simp [hs,h1],h2⟩
 at_:=by simp
theorem Qto.put {St:Qbl}{s:Nat}{dn hp hp':Nat→Option Int}{p q:Nat}{c d:Int}{Gone:Nat→Int→Prop}(h:Qto St s dn hp p c Gone)(hs:St p q d)
 (hput:(dn q≠none∧(∀ e,dn q=some e→e≤c+d)∧hp'=hp)∨(dn q=none∧(∀ r,r≠q→hp' r=hp r)∧((∃ e,hp q=some e∧e≤c+d∧hp' q=some e)∨((∀ e,hp q=some e→c+d≤e)∧hp' q=some (c+d))))) :
 Qto St s dn hp' p c (fun r e=>Gone r e∨(r=q∧e=d)) where
 dr:=h.dr
 dm:=h.dm
 hr:=fun r e he=>by
  rcases hput with ⟨_,_,rfl⟩|⟨_,h2,h3⟩
  · exact h.hr r e he
  · by_cases hr:r=q
    · subst hr
      rcases h3 with ⟨f,h4,_,h5⟩|⟨_,h5⟩
      · rw [h5] at he;cases he;exact h.hr r _ h4
      · rw [h5] at he;cases he;exact (h.dr p c h.at_).step hs
    · rw [h2 r hr] at he;exact h.hr r e he
 off:=fun r e he=>by
  rcases hput with ⟨_,_,rfl⟩|⟨h1,h2,_⟩
  · exact h.off r e he
  · by_cases hr:r=q
    · subst hr;rw [h1] at he;cases he
    · rw [h2 r hr];exact h.off r e he
 on:=fun r e t f he hst=>by
  have key:∀ g,(∃ x,hp t=some x∧x≤g)→∃ x,hp' t=some x∧x≤g:=fun g ⟨x,h1,h2⟩=>by
   rcases hput with ⟨_,_,rfl⟩|⟨_,h4,h5⟩
   · exact ⟨x,h1,h2⟩
   · by_cases ht:t=q
     · subst ht
       rcases h5 with ⟨y,h6,_,h7⟩|⟨h6,h7⟩
       · rw [h1] at h6;cases h6;exact ⟨x,h7,h2⟩
       · exact ⟨c+d,h7,by have:=h6 x h1;omega⟩
     · exact ⟨x,by rw [h4 t ht];exact h1,h2⟩
  rcases h.on r e t f he hst with ⟨h1,h2⟩|h1|h1
  · by_cases hg:t=q∧f=d
    · obtain ⟨rfl,rfl⟩:=hg
      subst h1;rw [h.at_] at he
      cases he
      right
      rcases hput with ⟨h3,h4,rfl⟩|⟨h3,h4,h5⟩
      · left
        cases hd:dn t with
        | none=>exact absurd hd h3
        | some x=>exact ⟨x,rfl,h4 x hd⟩
      · right
        rcases h5 with ⟨y,h6,h7,h8⟩|⟨_,h8⟩
        · exact ⟨y,h8,h7⟩
        · exact ⟨_,h8,Int.le_refl _⟩
    · exact .inl ⟨h1,fun hx=>hx.elim h2 hg⟩
  · exact .inr (.inl h1)
  · exact .inr (.inr (key _ h1))
 st:=by
  rcases h.st with h1|⟨e,h1,h2⟩
  · exact .inl h1
  · right
    rcases hput with ⟨_,_,rfl⟩|⟨_,h4,h5⟩
    · exact ⟨e,h1,h2⟩
    · by_cases ht:s=q
      · subst ht
        rcases h5 with ⟨y,h6,_,h7⟩|⟨h6,h7⟩
        · rw [h1] at h6;cases h6;exact ⟨e,h7,h2⟩
        · exact ⟨c+d,h7,by have:=h6 e h1;omega⟩
      · exact ⟨e,by rw [h4 s ht];exact h1,h2⟩
 at_:=h.at_
theorem Qto.done {St:Qbl}{s:Nat}{dn hp:Nat→Option Int}{p:Nat}{c:Int}{Gone:Nat→Int→Prop}(h:Qto St s dn hp p c Gone)(hg:∀ q d,St p q d→Gone q d):Dij St s dn hp :=
 ⟨h.dr,h.dm,h.hr,h.off,fun q e r d h1 h2=>by
  rcases h.on q e r d h1 h2 with ⟨h3,h4⟩|h3|h3
  · subst h3;exact absurd (hg r d h2) h4
  · exact .inl h3
  · exact .inr h3,h.st⟩
structure OutB (Out:Qbl) (dn:Nat→Option Int) (k:Nat) (b:Int) (Extra:Int→Prop):Prop where
 lo:∀ p c d,dn p=some c→Out p k d→¬Extra (c+d)→b≤c+d
 hit:b=INF∨∃ p c d,dn p=some c∧Out p k d∧b=c+d
theorem OutB.least {St Out:Qbl}{s k:Nat}{dn hp:Nat→Option Int}{b:Int}(h:Dij St s dn hp)(h0:∀ p q d,St p q d→0≤d)(he:∀ q,hp q=none) (hb:OutB Out dn k b (fun _=>False)) (hlt:∀ p c d,dn p=some c→Out p k d→c+d<INF):Lst (Qtl St Out s k) b:=by
 rcases hb.hit with h1|⟨p,c,d,h1,h2,h3⟩
 · right
   refine ⟨h1,fun v ⟨p,c,d,h2,h3,h4⟩=>?_⟩;obtain ⟨e,h5,_⟩:=h.all h0 he h2;have:=hb.lo p e d h5 h3 (fun h=>h);have:=hlt p e d h5 h3;omega
 · left
   refine ⟨⟨p,c,d,h.dr p c h1,h2,h3⟩,fun v ⟨q,e,f,h4,h5,h6⟩=>?_⟩;obtain ⟨x,h7,h8⟩:=h.all h0 he h4;have:=hb.lo q x f h7 h5 (fun h=>h);omega
end Go.Proofs.YthoagdpakddbdaaGreatDoor
namespace Go.Proofs.YthoagdpakddbdaaGreatDoor
open Go.RowKit Go.Proofs.Tryz
theorem Qto.gone {St:Qbl}{s:Nat}{dn hp:Nat→Option Int}{p:Nat}{c:Int}{Gone Gone':Nat→Int→Prop}(h:Qto St s dn hp p c Gone)(hg:∀ r d,St p r d→Gone' r d→Gone r d):Qto St s dn hp p c Gone' :=
 ⟨h.dr,h.dm,h.hr,h.off,fun q e r d h1 h2=>by
  rcases h.on q e r d h1 h2 with ⟨h3,h4⟩|h3
  · subst h3;exact .inl ⟨rfl,fun h5=>h4 (hg r d h2 h5)⟩
  · exact .inr h3,h.st,h.at_⟩
def StN (N:Qaj)(mk:List Bool)(s na:Nat):Qbl:=fun a b d=>∃ y,N.ar[b]?=some y∧Qaw N (if a=na then s else a) b≠1152921504606846976∧y.2.2≠1152921504606846976 ∧
 mk.getD y.1.toNat false=true∧mk.getD y.2.1.toNat false=true∧d=Qaw N (if a=na then s else a) b+y.2.2
attribute [local go_sem ↓] Go.wp_at_zero Go.wp_at_succ
theorem Qhy {u:Int}(h:wOk u=true):u=1152921504606846976∨(0≤u∧u≤2147483648):=by
 unfold wOk at h;simp only [Bool.or_eq_true,Bool.and_eq_true,decide_eq_true_eq] at h;omega
theorem getD_or (l:List Int)(k:Nat)(d:Int):l.getD k d=d∨l.getD k d∈l:=by
 rcases Nat.lt_or_ge k l.length with h|h
 · exact .inr (Zm (Qbd d h))
 · exact .inl (by rw [List.getD_eq_getElem?_getD,List.getElem?_eq_none h];rfl)
theorem Qin {N:Qaj}(h:Qas N)(a b:Nat):Qaw N a b=1152921504606846976∨(0≤Qaw N a b∧Qaw N a b≤2147483648):=by
 unfold Qaw
 split
 · split
   · split
     · split
       · rename_i t ht
         rcases getD_or t.costs ((Qew N.ar a _).1.toNat*t.outs.toNat+(Qew N.ar b _).2.toNat) 1152921504606846976 with h1|h1
         · exact .inl h1
         · exact Qhy ((h.tabs t (Zm ht)).ok _ h1)
       · exact .inl rfl
     · exact .inl rfl
   · exact .inl rfl
 · exact .inl rfl
end Go.Proofs.YthoagdpakddbdaaGreatDoor
namespace Go.Proofs.YthoagdpakddbdaaGreatDoor
def Qdz (l:List Int)(c:Int):List Bool:=l.map (fun z=>z == c)
def InK (St:Qbl)(s:Nat)(D:Int)(k q:Nat):Prop:=∃ e,Rch St s q e∧e≤(k:Int)*D
theorem InK.mono {St:Qbl}{s:Nat}{D:Int}(hD:0≤D){k q:Nat}(h:InK St s D k q):InK St s D (k+1) q:=by
 obtain ⟨e,h1,h2⟩:=h;refine ⟨e,h1,?_⟩
 push_cast
 rw [Int.add_mul,Int.one_mul];omega
theorem Qjk {α:Type}{p q:α→Bool}:∀ {l:List α},(∀ x∈l,p x=true→q x=true)→(∃ x∈l,p x=false∧q x=true)→l.countP p<l.countP q
 | [],_,h=>by obtain ⟨x,hx,_⟩:=h;cases hx
 | y::l,h1,h2=>by
  have hle:l.countP p≤l.countP q:=List.countP_mono_left (fun x hx=>h1 x (by simp [hx]))
  by_cases hy:p y=true
  · have hq:=h1 y (by simp) hy
    obtain ⟨x,hx,hp,hx2⟩:=h2
    rcases List.mem_cons.1 hx with rfl|hx
    · rw [hy] at hp;cases hp
    · have:=Qjk (fun z hz=>h1 z (by simp [hz])) ⟨x,hx,hp,hx2⟩
      simp only [List.countP_cons,hy,hq,if_pos];omega
  · have hy':p y=false:=by simpa using hy
    by_cases hq:q y=true
    · simp only [List.countP_cons,hy',hq]
      simp;omega
    · obtain ⟨x,hx,hp,hx2⟩:=h2
      rcases List.mem_cons.1 hx with rfl|hx
      · exact absurd hx2 hq
      · have:=Qjk (fun z hz=>h1 z (by simp [hz])) ⟨x,hx,hp,hx2⟩
        have hq':q y=false:=by simpa using hq
        simp only [List.countP_cons,hy',hq']
        simpa using this
open Classical in
theorem InK.stable (St:Qbl)(s:Nat){D:Int}(hD:0≤D)(n:Nat):∃ k,k≤n∧∀ q,q<n→InK St s D (k+1) q→InK St s D k q:=by
 apply Classical.byContradiction
 intro hno
 have hstep:∀ k,k≤n→(List.range n).countP (fun q=>decide (InK St s D k q))<(List.range n).countP (fun q=>decide (InK St s D (k+1) q)):=fun k hk=>by
  have h1:¬∀ q,q<n→InK St s D (k+1) q→InK St s D k q:=fun h=>hno ⟨k,hk,h⟩
  have ⟨q,h2⟩:=Classical.not_forall.1 h1;have ⟨hq,h3⟩:=Classical.not_imp.1 h2;have ⟨h4,h5⟩:=Classical.not_imp.1 h3;refine Qjk (fun x _ hx=>?_) ⟨q,by simpa using hq,by simpa using h5,by simpa using h4⟩;have:=InK.mono hD (of_decide_eq_true hx)
  simpa using this
 have hall:∀ k,k≤n+1→k≤(List.range n).countP (fun q=>decide (InK St s D k q)):=fun k=>by
  induction k with
  | zero=>intro _;exact Nat.zero_le _
  | succ k ih=>intro hk;have:=ih (by omega);have:=hstep k (by omega);omega
 have h1:=hall (n+1) (Zn _);have h2:=List.countP_le_length (p:=fun q=>decide (InK St s D (n+1) q)) (l:=List.range n);rw [List.length_range] at h2;omega
theorem Rch.bound {St:Qbl}{n:Nat}{D:Int}(hD:0≤D)(hst:∀ p q d,St p q d→q<n∧d≤D){s p:Nat}{c:Int}(h:Rch St s p c):∃ e,Rch St s p e∧e≤(n:Int)*D:=by
 obtain ⟨k,hk,hs⟩:=InK.stable St s hD n
 have hin:InK St s D k p:=by
  induction h with
  | start=>exact ⟨0,.start,Int.mul_nonneg (by omega) hD⟩
  | step h1 h2 ih =>
   obtain ⟨e,h3,h4⟩:=ih;have:=hst _ _ _ h2;refine hs _ this.1 ⟨_,h3.step h2,?_⟩
   push_cast
   rw [Int.add_mul,Int.one_mul];omega
 obtain ⟨e,h1,h2⟩:=hin;exact ⟨e,h1,Int.le_trans h2 (Int.mul_le_mul_of_nonneg_right (by omega) hD)⟩
theorem Dij.bd {St:Qbl}{s:Nat}{dn hp:Nat→Option Int}(h:Dij St s dn hp){M:Int}(hM:∀ p c,Rch St s p c→∃ e,Rch St s p e∧e≤M){p:Nat}{c:Int}(hd:dn p=some c):c≤M:=by
 obtain ⟨e,h1,h2⟩:=hM p c (h.dr p c hd);have:=h.dm p c hd e h1;omega
theorem Dij.bdTake {St:Qbl}{s:Nat}{dn hp:Nat→Option Int}(h:Dij St s dn hp)(h0:∀ p q d,St p q d→0≤d){M:Int}(hM:∀ p c,Rch St s p c→∃ e,Rch St s p e∧e≤M){p:Nat}{c:Int}(hp1:hp p=some c)(hm:∀ q e,hp q=some e→c≤e):c≤M:=by
 obtain ⟨e,h1,h2⟩:=hM p c (h.hr p c hp1);have:=h.least h0 hp1 hm e h1;omega
theorem Dij.init (St:Qbl)(s:Nat){hp:Nat→Option Int}(h:∀ q,hp q=if q=s then some 0 else none):Dij St s (fun _=>none) hp where
 dr:=fun p c h=>by cases h
 dm:=fun p c h=>by cases h
 hr:=fun p c hc=>by
  rw [h] at hc
  by_cases e:p=s
  · subst e;simp at hc;subst hc;exact .start
  · simp [e] at hc
 off:=fun p c h=>by cases h
 on:=fun p c q d h=>by cases h
 st:=.inr ⟨0,by rw [h,if_pos rfl],Int.le_refl _⟩
theorem OutB.next {Out:Qbl}{dn:Nat→Option Int}{k p:Nat}{b b' c:Int} (h:OutB Out dn k b (fun _=>False)) (hp:dn p=none) (hle:b'≤b) (hout:∀ d,Out p k d→b'≤c+d) (hhit:b'=b∨∃ d,Out p k d∧b'=c+d) :
 OutB Out (fun q=>if q=p then some c else dn q) k b' (fun _=>False) where
 lo:=fun q e d hq ho _=>by
  by_cases e1:q=p
  · subst e1;simp at hq;subst hq;exact hout d ho
  · simp [e1] at hq;have:=h.lo q e d hq ho (fun h=>h);omega
 hit:=by
  rcases hhit with e|⟨d,h1,h2⟩
  · subst e
    rcases h.hit with h1|⟨q,x,d,h1,h2,h3⟩
    · exact .inl h1
    · exact .inr ⟨q,x,d,by rw [if_neg (fun e=>by rw [e,hp] at h1;cases h1)];exact h1,h2,h3⟩
  · exact .inr ⟨p,c,d,by simp,h1,h2⟩
end Go.Proofs.YthoagdpakddbdaaGreatDoor
namespace Go.Proofs.YthoagdpakddbdaaGreatDoor
open Go.RowKit Go.Proofs.Tryz
theorem Qcg {N:Qaj}{a b:Nat}(h:Qaw N a b≠1152921504606846976):∃ x y,N.ar[a]?=some x∧N.ar[b]?=some y∧x.2.1=y.1:=by
 unfold Qaw at h
 split at h
 · rename_i x y hx hy
   by_cases e:x.2.1=y.1
   · exact ⟨x,y,hx,hy,e⟩
   · rw [if_neg e] at h;exact absurd rfl h
 · exact absurd rfl h
def StA (N:Qaj)(mk:List Bool):Qbl:=fun a b d=>∃ y,N.ar[b]?=some y∧Qaw N a b≠1152921504606846976∧y.2.2≠1152921504606846976 ∧
 mk.getD y.1.toNat false=true∧mk.getD y.2.1.toNat false=true∧d=Qaw N a b+y.2.2
def OuA (N:Qaj):Qbl:=fun a t d=>Qaw N a t≠1152921504606846976∧d=Qaw N a t
def Qhk (N:Qaj)(mk:List Bool)(s t:Nat)(v:Int):Prop:=Lst (Qtl (StA N mk) (OuA N) s t) v
theorem StA.lt {N:Qaj}{mk:List Bool}{a b:Nat}{d:Int}(h:StA N mk a b d):b<N.ar.length:=by
 obtain ⟨y,hy,_⟩:=h;exact (Zs hy).1
theorem StN.stA {N:Qaj}{mk:List Bool}{s na a b:Nat}{d:Int}(h:StN N mk s na a b d):StA N mk (if a=na then s else a) b d:=h
theorem StA.bd {N:Qaj}(hok:Qas N){mk:List Bool}{a b:Nat}{d:Int}(h:StA N mk a b d):0≤d∧d≤4294967296:=by
 obtain ⟨y,hy,h1,h2,_,_,rfl⟩:=h;have h3:=(Qin hok a b).resolve_left h1;have h4:=(Qhy (hok.arcs y (Zm hy)).w).resolve_left h2;omega
theorem OuA.bd {N:Qaj}(hok:Qas N){a t:Nat}{d:Int}(h:OuA N a t d):0≤d∧d≤2147483648:=by
 obtain ⟨h1,rfl⟩:=h;exact (Qin hok a t).resolve_left h1
def MB:Int:=70373039144960
theorem rchN_bd {N:Qaj}(hok:Qas N){mk:List Bool}{s:Nat}(p:Nat)(c:Int) (h:Rch (StN N mk s N.ar.length) N.ar.length p c):∃ e,Rch (StN N mk s N.ar.length) N.ar.length p e∧e≤MB:=by
 obtain ⟨e,h1,h2⟩:=Rch.bound (n:=N.ar.length) (D:=4294967296) (by omega) (fun p q d h=>⟨(StN.stA h).lt,((StN.stA h).bd hok).2⟩) h;refine ⟨e,h1,?_⟩;have:=hok.la;unfold MB;omega
theorem Qjw {N:Qaj}(hok:Qas N){mk:List Bool}{s:Nat}(p:Nat)(c:Int) (h:Rch (StA N mk) s p c):∃ e,Rch (StA N mk) s p e∧e≤MB:=by
 obtain ⟨e,h1,h2⟩:=Rch.bound (n:=N.ar.length) (D:=4294967296) (by omega) (fun p q d h=>⟨h.lt,(h.bd hok).2⟩) h;refine ⟨e,h1,?_⟩;have:=hok.la;unfold MB;omega
theorem Qhk.bd {N:Qaj}(hok:Qas N){mk:List Bool}{s t:Nat}{v:Int}(h:Qhk N mk s t v):v=1152921504606846976∨(0≤v∧v≤70375186628608):=by
 rcases h with ⟨⟨p,c,d,h1,h2,rfl⟩,hm⟩|⟨h1,_⟩
 · right
   have hc:=h1.pos (fun p q d h=>(h.bd hok).1);have hd:=h2.bd hok;obtain ⟨e,h3,h4⟩:=Qjw hok p c h1;have:=hm (e+d) ⟨p,e,d,h3,h2,rfl⟩;unfold MB at h4;omega
 · exact .inl h1
theorem Qpc {bs:List Nat}{l:List Int}(h:nis bs=l)(b:Nat):b∈bs↔(b:Int)∈l:=by
 rw [←h];unfold nis
 constructor
 · intro hb;exact List.mem_map.2 ⟨b,hb,rfl⟩
 · intro hb
   obtain ⟨c,hc,e⟩:=List.mem_map.1 hb;have:c=b:=by omega
   rwa [←this]
theorem outs_mem {N:Qaj}{a b:Nat}{x:Tri} (hx:N.ar[a]?=some x) {bs:List Nat} (hbs:nis bs=idx (·.1) N.ar x.2.1) (h:Qaw N a b≠1152921504606846976):b∈bs:=by
 obtain ⟨x',y,h1,h2,h3⟩:=Qcg h;rw [hx] at h1
 cases h1
 exact (Qpc hbs b).2 (Qpf.2 ⟨b,y,rfl,h2,h3.symm⟩)
end Go.Proofs.YthoagdpakddbdaaGreatDoor
namespace Go.Proofs.YthoagdpakddbdaaGreatDoor
abbrev Stp:=Nat×Int×Int
def StF (L:Nat→List Stp):Qbl:=fun p q d=>∃ s∈L p,s.2.1<0∧s.1=q∧s.2.2=d
def OuF (L:Nat→List Stp):Qbl:=fun p k d=>∃ s∈L p,s.2.1=(k:Int)∧s.2.2=d
def Qby (dn:List Bool)(c:Int) (st:List Int×(Nat→Option Int)) (s:Stp):List Int×(Nat→Option Int) :=
 if 0≤s.2.1 then (st.1.set s.2.1.toNat (min (st.1.getD s.2.1.toNat 0) (c+s.2.2)),st.2)
 else (st.1,if dn.getD s.1 false=false then Qtb st.2 s.1 (c+s.2.2) else st.2)
structure Qol (L:Nat→List Stp) (n outs:Nat) (D:Int):Prop where
 to_:∀ p,p<n→∀ s∈L p,s.2.1<0→s.1<n
 out:∀ p,p<n→∀ s∈L p,s.2.1<outs
 bd:∀ p,p<n→∀ s∈L p,0≤s.2.2∧s.2.2≤D
theorem Qqk {L:Nat→List Stp}{n:Nat}{dn:List Bool}{s p:Nat}{dnf:Nat→Option Int}{c:Int} (hdn:∀ q,q<n→(dn.getD q false=true↔dnf q≠none)) :
 ∀ (l:List Stp) (st:List Int×(Nat→Option Int)) (Gone:Nat→Int→Prop),(∀ x∈l,x∈L p∧(x.2.1<0→x.1<n))→Qto (StF L) s dnf st.2 p c Gone →
  Qto (StF L) s dnf (l.foldl (Qby dn c) st).2 p c (fun r e=>Gone r e∨∃ x∈l,x.2.1<0∧x.1=r∧x.2.2=e)
 | [],st,Gone,_,h=>h.gone (fun r d _ hg=>hg.elim id (fun ⟨_,e,_⟩=>by cases e))
 | x::l,(row,hp),Gone,hb,h=>by
  have hx:=hb x (by simp)
  have h1:Qto (StF L) s dnf (Qby dn c (row,hp) x).2 p c (fun r e=>Gone r e∨(x.2.1<0∧x.1=r∧x.2.2=e)):=by
   unfold Qby
   by_cases ho:0≤x.2.1
   · simp only [if_pos ho]
     exact h.gone (fun r d _ hg=>hg.elim id (fun e=>by omega))
   · simp only [if_neg ho]
     have hst:StF L p x.1 x.2.2:=⟨x,hx.1,by omega,rfl,rfl⟩
     by_cases h5:dn.getD x.1 false=true
     · have hne:=(hdn x.1 (hx.2 (by omega))).1 h5
       rw [if_neg (by rw [h5];simp)];exact (h.put hst (.inl ⟨hne,fun e he=>h.dm x.1 e he _ ((h.dr p c h.at_).step hst),rfl⟩)).gone (fun r d _ hg=>hg.elim .inl (fun e=>.inr ⟨e.2.1.symm,e.2.2.symm⟩))
     · have h6:dn.getD x.1 false=false:=by simpa using h5
       rw [if_pos h6]
       have hno:dnf x.1=none:=by
        cases hd:dnf x.1 with
        | none=>rfl
        | some e=>exact absurd ((hdn x.1 (hx.2 (by omega))).2 (by rw [hd];simp)) h5
       refine (h.put (hp':=Qtb hp x.1 (c+x.2.2)) hst (.inr ⟨hno,fun r hr=>by unfold Qtb;rw [if_neg hr],?_⟩)).gone (fun r d _ hg=>hg.elim .inl (fun e=>.inr ⟨e.2.1.symm,e.2.2.symm⟩));unfold Qtb;rw [if_pos rfl]
       dsimp only
       cases hv:hp x.1 with
       | none=>exact .inr ⟨fun e he=>(by cases he),rfl⟩
       | some z =>
        by_cases hz:z≤c+x.2.2
        · exact .inl ⟨z,rfl,hz,by simp [hz]⟩
        · exact .inr ⟨fun e he=>(by cases he;omega),by simp [hz]⟩
  have h2:=Qqk hdn l _ _ (fun q hq=>hb q (by simp [hq])) h1;refine h2.gone (fun r d _ hg=>?_)
  rcases hg with hg|⟨y,hy,hg⟩
  · exact .inl (.inl hg)
  · rcases List.mem_cons.1 hy with e|e
    · subst e;exact .inl (.inr hg)
    · exact .inr ⟨y,e,hg⟩
theorem Qji {dn:List Bool}{c:Int}:∀ (l:List Stp) (st:List Int×(Nat→Option Int)),(l.foldl (Qby dn c) st).1.length=st.1.length
 | [],st=>rfl
 | x::l,st=>by
  rw [List.foldl_cons,Qji l];unfold Qby
  split <;> simp
theorem Qre {dn:List Bool}{c D B:Int}(hc:c+D≤B):∀ (l:List Stp) (st:List Int×(Nat→Option Int)),(∀ x∈l,x.2.2≤D)→(∀ q e,st.2 q=some e→e≤B) →
 ∀ q e,(l.foldl (Qby dn c) st).2 q=some e→e≤B
 | [],st,_,h=>h
 | x::l,(row,hp),hb,h=>by
  have hx:=hb x (by simp);refine Qre hc l _ (fun y hy=>hb y (by simp [hy])) ?_;intro q e hq;unfold Qby at hq
  split at hq
  · exact h q e hq
  · simp only at hq
    split at hq
    · unfold Qtb at hq
      by_cases e1:q=x.1
      · rw [if_pos e1] at hq
        split at hq
        · cases hq;omega
        · rename_i z hz
          have:=h x.1 z hz
          split at hq <;> (cases hq;omega)
      · rw [if_neg e1] at hq;exact h q e hq
    · exact h q e hq
theorem Qmp {dn:List Bool}{c:Int}(k:Nat):∀ (l:List Stp) (st:List Int×(Nat→Option Int)),k<st.1.length →
 (l.foldl (Qby dn c) st).1.getD k 0≤st.1.getD k 0∧(∀ x∈l,x.2.1=(k:Int)→(l.foldl (Qby dn c) st).1.getD k 0≤c+x.2.2) ∧
  ((l.foldl (Qby dn c) st).1.getD k 0=st.1.getD k 0∨∃ x∈l,x.2.1=(k:Int)∧(l.foldl (Qby dn c) st).1.getD k 0=c+x.2.2)
 | [],st,_=>⟨Int.le_refl _,fun x hx=>(by cases hx),.inl rfl⟩
 | x::l,st,hk=>by
  have hl:(Qby dn c st x).1.length=st.1.length:=by unfold Qby;split <;> simp
  obtain ⟨h1,h2,h3⟩:=Qmp k l (Qby dn c st x) (by rw [hl];exact hk);rw [List.foldl_cons]
  have hs:(Qby dn c st x).1.getD k 0=if x.2.1=(k:Int) then min (st.1.getD k 0) (c+x.2.2) else st.1.getD k 0:=by
   unfold Qby
   by_cases ho:0≤x.2.1
   · simp only [if_pos ho]
     by_cases e:x.2.1=(k:Int)
     · rw [if_pos e,e,Int.toNat_natCast]
       simp [List.getD_eq_getElem?_getD,hk]
     · rw [if_neg e]
       have:¬x.2.1.toNat=k:=by omega
       simp [List.getD_eq_getElem?_getD,this]
   · simp only [if_neg ho]
     rw [if_neg (by omega)]
  generalize hz:(Qby dn c st x).1.getD k 0=z at h1 h3 hs;generalize hy:(l.foldl (Qby dn c) (Qby dn c st x)).1.getD k 0=y at h1 h2 h3 ⊢;refine ⟨by split at hs <;> omega,fun u hu e=>?_,?_⟩
  · rcases List.mem_cons.1 hu with rfl|hu
    · rw [if_pos e] at hs;omega
    · exact h2 u hu e
  · rcases h3 with h3|⟨u,hu,h4,h5⟩
    · by_cases e:x.2.1=(k:Int)
      · rw [if_pos e] at hs
        by_cases h6:st.1.getD k 0≤c+x.2.2
        · exact .inl (by omega)
        · exact .inr ⟨x,by simp,e,by omega⟩
      · rw [if_neg e] at hs;exact .inl (by omega)
    · exact .inr ⟨u,by simp [hu],h4,h5⟩
structure LeI (L:Nat→List Stp) (n outs start:Nat) (B:Int) (dnf hp:Nat→Option Int) (dn:List Bool) (row:List Int):Prop where
 dij:Dij (StF L) start dnf hp
 fl:∀ q,q<n→(dn.getD q false=true↔dnf q≠none)
 dlt:∀ q,n≤q→dnf q=none
 bd:∀ q e,hp q=some e→e≤B
 best:∀ k,k<outs→OutB (OuF L) dnf k (row.getD k 0) (fun _=>False)
 ld:dn.length=n
 lr:row.length=outs
theorem LeI.init {L:Nat→List Stp}{n outs start:Nat}{B:Int}{hp:Nat→Option Int}{row:List Int}(hB:0≤B)(h:∀ q,hp q=if q=start then some 0 else none)(hr:row=List.replicate outs 1152921504606846976):LeI L n outs start B (fun _=>none) hp (List.replicate n false) row:=by
 subst hr;refine ⟨Dij.init _ _ h,fun q _=>?_,fun q _=>rfl,fun q e hq=>?_,fun k hk=>⟨fun p c d h=>(by cases h),.inl ?_⟩,by simp,by simp⟩
 · rw [List.getD_eq_getElem?_getD,List.getElem?_replicate]
   split <;> simp
 · rw [h] at hq
   split at hq
   · cases hq;exact hB
   · cases hq
 · rw [List.getD_eq_getElem?_getD,List.getElem?_replicate,if_pos hk]
   rfl
theorem StF.bd {L:Nat→List Stp}{n outs:Nat}{D:Int}(h:Qol L n outs D) (he:∀ p,n≤p→L p=[]) {p q:Nat} {d:Int} (hs:StF L p q d):0≤d∧d≤D∧p<n∧q<n:=by
 obtain ⟨s,h1,h2,rfl,rfl⟩:=hs
 have hp:p<n:=by
  rcases Nat.lt_or_ge p n with h3|h3
  · exact h3
  · rw [he p h3] at h1;cases h1
 exact ⟨(h.bd p hp s h1).1,(h.bd p hp s h1).2,hp,h.to_ p hp s h1 h2⟩
theorem OuF.bd {L:Nat→List Stp}{n outs:Nat}{D:Int}(h:Qol L n outs D) (he:∀ p,n≤p→L p=[]) {p k:Nat} {d:Int} (hs:OuF L p k d):0≤d∧d≤D:=by
 obtain ⟨s,h1,h2,rfl⟩:=hs
 have hp:p<n:=by
  rcases Nat.lt_or_ge p n with h3|h3
  · exact h3
  · rw [he p h3] at h1;cases h1
 exact h.bd p hp s h1
theorem LeI.next {L:Nat→List Stp}{n outs start p:Nat}{M D B c:Int}{dnf hp:Nat→Option Int}{dn:List Bool}{row:List Int}(h:LeI L n outs start B dnf hp dn row)(hf:Qol L n outs D) (he:∀ p,n≤p→L p=[])
 (hM:∀ p c,Rch (StF L) start p c→∃ e,Rch (StF L) start p e∧e≤M) (hB:M+D≤B) (hpn:p<n) (hp1:hp p=some c) (hm:∀ q e,hp q=some e→c≤e) :
 LeI L n outs start B (fun q=>if q=p then some c else dnf q) ((L p).foldl (Qby (dn.set p true) c) (row,fun q=>if q=p then none else hp q)).2 (dn.set p true) ((L p).foldl (Qby (dn.set p true) c) (row,fun q=>if q=p then none else hp q)).1:=by
 have h0:∀ p q d,StF L p q d→0≤d:=fun p q d hs=>(StF.bd hf he hs).1
 have hno:dnf p=none:=by
  cases hd:dnf p with
  | none=>rfl
  | some e=>have:=h.dij.off p e hd;rw [hp1] at this;cases this
 have hfl:∀ q,q<n→((dn.set p true).getD q false=true↔(fun q=>if q=p then some c else dnf q) q≠none):=fun q hq=>by
  by_cases e:q=p
  · subst e
    have:q<dn.length:=by rw [h.ld];exact hq
    simp [List.getD_eq_getElem?_getD,this]
  · have e':¬p=q:=fun x=>e x.symm
    have:=h.fl q hq
    simpa [List.getD_eq_getElem?_getD,List.getElem?_set,e,e'] using this
 have hc:c≤M:=h.dij.bdTake h0 hM hp1 hm;have hdj:=Qqk (L:=L) (n:=n) hfl (L p) (row,fun q=>if q=p then none else hp q) _ (fun x hx=>⟨hx,fun h1=>hf.to_ p hpn x hx h1⟩) (h.dij.take h0 hp1 hm);refine ⟨hdj.done (fun q d ⟨s,h1,h2,h3,h4⟩=>.inr ⟨s,h1,h2,h3,h4⟩),hfl,fun q hq=>?_,Qre (D:=D) (by omega) _ _ (fun x hx=>(hf.bd p hpn x hx).2) (fun q e hq=>?_),fun k hk=>?_,by rw [List.length_set];exact h.ld,by rw [Qji];exact h.lr⟩
 · have:q≠p:=by omega
   simp [this,h.dlt q hq]
 · by_cases e1:q=p
   · simp [e1] at hq
   · simp [e1] at hq;exact h.bd q e hq
 · obtain ⟨h1,h2,h3⟩:=Qmp (dn:=dn.set p true) (c:=c) k (L p) (row,fun q=>if q=p then none else hp q) (by rw [h.lr];exact hk)
   refine (h.best k hk).next hno h1 (fun d ⟨s,h4,h5,h6⟩=>?_) (h3.elim .inl (fun ⟨s,h4,h5,h6⟩=>.inr ⟨_,⟨s,h4,h5,rfl⟩,h6⟩));subst h6;exact h2 s h4 h5
theorem LeI.done {L:Nat→List Stp}{n outs start:Nat}{M D B:Int}{dnf hp:Nat→Option Int}{dn:List Bool}{row:List Int}(h:LeI L n outs start B dnf hp dn row)(hf:Qol L n outs D) (he:∀ p,n≤p→L p=[])
 (hM:∀ p c,Rch (StF L) start p c→∃ e,Rch (StF L) start p e∧e≤M) (hB:M+D<1152921504606846976) (hn:∀ q,hp q=none):∀ k,k<outs→Lst (Qtl (StF L) (OuF L) start k) (row.getD k 0):=fun k hk =>
 OutB.least h.dij (fun p q d hs=>(StF.bd hf he hs).1) hn (h.best k hk) (fun p c d h1 h2=>by
  have h3:=h.dij.bd hM h1;have h4:=OuF.bd hf he h2;unfold INF;omega)
end Go.Proofs.YthoagdpakddbdaaGreatDoor
