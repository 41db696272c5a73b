/- Parts of the proof: AsY, AsI, AsA, RfI, RfU. -/
import Derived.Test.YtdheeddnkdhfeaaGreatDoorJ17
import Derived.Test.YtdheeddnkdhfeaaGreatDoorJ19
import Derived.Laws.StructEq
namespace Go.Proofs.YtdheeddnkdhfeaaGreatDoor
open Go.RowKit Go.Proofs.Tryz
theorem leap_ent {N:Qak} {ls:List (List Int)} {EL:List Ent} (hE:EntP N ls EL) (hEl:EL.length=Qca (gatesOf N.ar ls)) {k j c p q a b:Nat} {l:List Int} {x:Qam} (hI:Qfs N ls k j l c x p q a b) :
 EL[k]?=some (j,c,p,q)∧∀ i f,i<k→EL[i]?=some f→f≠(j,c,p,q):=by
 have hk:=hI.lt.2.2.1;rw [←hEl] at hk;obtain ⟨e,he⟩:∃ e,EL[k]?=some e:=⟨_,Zg hk⟩;obtain ⟨l',x',s',t',hI'⟩:=hE _ e he;obtain ⟨g1,_,g3,_,g5,g6,_,_⟩:=hI.inj hI';obtain ⟨e1,e2,e4,e5⟩:=e;simp only at g1 g3 g5 g6;subst g1;subst g3;subst g5;subst g6;refine ⟨he,fun i f hi hf hfe=>?_⟩;subst hfe;obtain ⟨l'',x'',s'',t'',hI''⟩:=hE _ _ hf;have h5:=hI''.hl;simp only at h5;rw [hI.hl] at h5
 cases h5
 have h6:=hI''.hx;simp only at h6;rw [hI.hx] at h6
 cases h6
 have h7:=hI''.hk;have h8:=hI.hk;simp only at h7;omega
theorem Qtg {N:Qak} {ls:List (List Int)} {cl:List Int} (hA:Qdh N ls cl) {j a b c k p q:Nat} {l:List Int} {x:Qam} {y z:Tri} (hl:ls[j]?=some l) (hy:N.ar[a]?=some y) (hz:N.ar[b]?=some z)
 (h1:Qad l y.1≠Qad l y.2.1) (h2:Qad l z.1=Qad l y.2.1) (h3:Qad l z.2.1≠Qad l y.2.1) (hc:Qad l y.2.1=(c:Int)) (hI:Qfs N ls k j l c x p q a b):∃ v,cl[k]?=some v∧Qox N ls ((j:Int)+1) (a:Int) (b:Int) (Qdz v z.2.2):=by
 obtain ⟨v,hv,hE⟩:=hA.at_ hI;exact ⟨v,hv,.inr (.inl ⟨a,b,j,l,y,z,v,rfl,rfl,rfl,hl,hy,hz,h1,h2,h3,by rw [hc];exact hE,rfl⟩)⟩
theorem Qgw {N:Qak} {ls:List (List Int)} {a b:Nat} {y z:Tri} (hy:N.ar[a]?=some y) (hz:N.ar[b]?=some z):Qox N ls 0 (a:Int) (b:Int) (Qdz (Qaw N a b) z.2.2):=.inl ⟨a,b,y,z,rfl,rfl,hy,hz,rfl,rfl⟩
theorem Qkg {N:Qak} {ls:List (List Int)} {lv f t:Int} (h:∀ (a b:Nat),f=(a:Int)→t=(b:Int)→a<N.ar.length→b<N.ar.length→lv≠0∧¬LeapQ N ls lv a b):Qox N ls lv f t 1152921504606846976:=.inr (.inr ⟨rfl,h⟩)
/-! law21.known's chain. -/
theorem Qhd (a:Nat)(h:a≤4):toV Qar a=(a:Int)+1:=by
 rcases (by omega:a=0∨a=1∨a=2∨a=3∨a=4) with rfl|rfl|rfl|rfl|rfl <;> rfl
theorem Qrz:frV Qar 4=4:=rfl
theorem Qke {v:Int}{av:List Int}{x:Int}(hx:x∈av) (h:Qad [0,0,1,1,2,2] v=Qad [0,0,1,1,2,2] x):Qfy Qbf v av=0:=by
 cases h1:Qfy Qbf v av with
 | zero=>rfl
 | succ j =>
  have hj:=Qiw (ls:=Qbf) (v:=v) (av:=av) 1;have h2:Qjk Qbf v av 1=j+1:=h1;obtain rfl:j=0:=by omega
  obtain ⟨l,hl,h3⟩:=Qdl h1
  cases hl
  exact absurd h (h3 x hx)
theorem ch_up {v:Int}{av:List Int} (h:∀ x∈av,Qad [0,0,1,1,2,2] v≠Qad [0,0,1,1,2,2] x):Qfy Qbf v av=1:=by
 have h1:=Qhl (ls:=Qbf) (v:=v) (av:=av) (j:=0) ⟨_,rfl,h⟩;have:=Qiw (ls:=Qbf) (v:=v) (av:=av) 1;unfold Qfy at h1 ⊢;exact Nat.le_antisymm this h1
theorem ch_hst {a b:Nat}{d:Int} (h:HSt Qar Qbf [1,4] a b d):(a=0∧b=1∧d=11)∨(a=1∧b=3∧d=22)∨(a=3∧b=4∧d=11):=by
 rcases h with ⟨h0,h⟩|⟨j,l,y,z,v,hj,hl,hy,hz,g1,g2,g3,g4,g5,g6,rfl⟩
 · obtain ⟨h1,rfl,rfl⟩:=Qno.1 h
   rw [Qhd a (by omega)] at h0
   rcases (by omega:a=0∨a=1∨a=2∨a=3) with rfl|rfl|rfl|rfl
   · exact .inl ⟨rfl,rfl,rfl⟩
   · rw [ch_up (v:=((1:Nat):Int)+1) (by decide)] at h0;cases h0
   · rw [ch_up (v:=((2:Nat):Int)+1) (by decide)] at h0;cases h0
   · exact .inr (.inr ⟨rfl,rfl,rfl⟩)
 · have hj1:=Qiw (ls:=Qbf) (v:=toV Qar a) (av:=[1,4]) 1
   have h2:Qjk Qbf (toV Qar a) [1,4] 1=j+1:=hj;obtain rfl:j=0:=by omega
   cases hl
   obtain ⟨k1,rfl⟩:=Qzb hy;obtain ⟨k2,rfl⟩:=Qzb hz;simp only at g1 g2 g3 g4 g5
   rcases (by omega:a=0∨a=1∨a=2∨a=3∨a=4) with rfl|rfl|rfl|rfl|rfl
   · exact absurd (by decide) g1
   · rcases (by omega:b=0∨b=1∨b=2∨b=3∨b=4) with rfl|rfl|rfl|rfl|rfl
     · exact absurd g2 (by decide)
     · exact absurd g2 (by decide)
     · exact absurd (by decide) g3
     · obtain rfl:=Lst.uniq g5 Qxn
       exact .inr (.inl ⟨rfl,rfl,rfl⟩)
     · exact absurd g2 (by decide)
   · exact absurd (by decide) g1
   · rw [Qhd 3 (by omega),Qke (v:=((3:Nat):Int)+1) (x:=4) (by decide) (by decide)] at hj
     cases hj
   · exact absurd (by decide) g1
theorem ch_hop {q:Nat}{c:Int} {hs:List (Nat×Nat)} (h:HopP Qar Qbf [1,4] 0 q c hs):(q=0∧hs=[])∨(q=1∧hs=[(0,1)])∨(q=3∧hs=[(0,1),(1,3)])∨(q=4∧hs=[(0,1),(1,3),(3,4)]):=by
 induction h with
 | start=>exact .inl ⟨rfl,rfl⟩
 | step _ h2 ih =>
  rcases ch_hst h2 with ⟨rfl,rfl,rfl⟩|⟨rfl,rfl,rfl⟩|⟨rfl,rfl,rfl⟩
  · rcases ih with ⟨_,rfl⟩|⟨h,_⟩|⟨h,_⟩|⟨h,_⟩
    · exact .inr (.inl ⟨rfl,rfl⟩)
    · cases h
    · cases h
    · cases h
  · rcases ih with ⟨h,_⟩|⟨_,rfl⟩|⟨h,_⟩|⟨h,_⟩
    · cases h
    · exact .inr (.inr (.inl ⟨rfl,rfl⟩))
    · cases h
    · cases h
  · rcases ih with ⟨h,_⟩|⟨h,_⟩|⟨_,rfl⟩|⟨h,_⟩
    · cases h
    · cases h
    · exact .inr (.inr (.inr ⟨rfl,rfl⟩))
    · cases h
theorem ch_av:[toV Qar 0,frV Qar 4]=[1,4]:=rfl
theorem ch_run {v:Int} {hs:List (Nat×Nat)} (h:RunP Qar Qbf [toV Qar 0,frV Qar 4] 0 4 v hs):v=44∧hs.map (Qte Qar Qbf [toV Qar 0,frV Qar 4])=[(0,0,1),(1,1,3),(0,3,4)]:=by
 have hv:v=44:=by
  rcases h with ⟨h1,_⟩|⟨_,h2,_⟩
  · exact absurd h1 (by decide)
  · exact (Qms Qda Qcn (Qkf.ex Qda Qcn) ⟨_,rfl⟩ (by simp) (by simp) h2).uniq Qxa
 subst hv;refine ⟨rfl,?_⟩
 rcases h with ⟨_,h2,_⟩|⟨_,_,⟨h3,_⟩|h3⟩
 · exact absurd h2 (by decide)
 · exact absurd h3 (by decide)
 · rw [ch_av] at h3 ⊢
   rcases ch_hop h3 with ⟨h,_⟩|⟨h,_⟩|⟨h,_⟩|⟨_,rfl⟩
   · cases h
   · cases h
   · cases h
   · simp only [List.map_cons,List.map_nil,Qte]
     rw [Qhd 0 (by omega),Qhd 1 (by omega),Qhd 3 (by omega),Qke (v:=((0:Nat):Int)+1) (x:=1) (by decide) (by decide),ch_up (v:=((1:Nat):Int)+1) (by decide),Qke (v:=((3:Nat):Int)+1) (x:=4) (by decide) (by decide)]
theorem ch_run0 {v:Int}(h:Qob Qar 4 0 v):v=1152921504606846976:=h.uniq (.inr ⟨by decide,ch_none⟩)
theorem Raa {a:Nat}(h:a≤3){v:Int} (hv:Qox Qar Qbf 0 (a:Int) ((a:Int)+1) v):v=11:=by
 have h1:Qox Qar Qbf 0 (a:Int) (((a+1:Nat)):Int) 11:=by
  rcases (by omega:a=0∨a=1∨a=2∨a=3) with rfl|rfl|rfl|rfl
  · exact Qgw (a:=0) (b:=1) (y:=(0,1,10)) (z:=(1,2,10)) rfl rfl
  · exact Qgw (a:=1) (b:=2) (y:=(1,2,10)) (z:=(2,3,10)) rfl rfl
  · exact Qgw (a:=2) (b:=3) (y:=(2,3,10)) (z:=(3,4,10)) rfl rfl
  · exact Qgw (a:=3) (b:=4) (y:=(3,4,10)) (z:=(4,5,10)) rfl rfl
 exact hv.uniq h1
theorem Qyl {v:Int}(hv:Qox Qar Qbf 1 1 3 v):v=22 :=
 hv.uniq (.inr (.inl ⟨1,3,0,[0,0,1,1,2,2],(1,2,10),(3,4,10),12,rfl,rfl,rfl,rfl,rfl,rfl,by decide,by decide,by decide,Qxn,by decide⟩))
theorem ch_prc2 {v:Int}(hv:Qox Qar Qbf 1 1 2 v):v=1152921504606846976:=by
 refine hv.uniq (Qkg (fun a b ha hb _ _=>⟨by decide,?_⟩));obtain rfl:a=1:=by omega
 obtain rfl:b=2:=by omega
 rintro ⟨j,l,y,z,hj,hl,hy,hz,_,_,g3⟩;obtain rfl:j=0:=by omega
 cases hl
 cases hy
 cases hz
 exact absurd (by decide) g3
attribute [local go_sem ↓] Go.wp_at_zero Go.wp_at_succ
def Qeg (N:Qak) (ls:List (List Int)) (lv a:Int):Option (Int×Int) :=
 if 1≤lv∧lv≤(ls.length:Int)∧0≤a∧a<(N.ar.length:Int) then
  (if Qad (ls.getD (lv-1).toNat []) (N.ar.getD a.toNat (0,0,0)).1=Qad (ls.getD (lv-1).toNat []) (N.ar.getD a.toNat (0,0,0)).2.1 then none
   else some (Qad (ls.getD (lv-1).toNat []) (N.ar.getD a.toNat (0,0,0)).1,Qad (ls.getD (lv-1).toNat []) (N.ar.getD a.toNat (0,0,0)).2.1)) else none
def enF (N:Qak) (ls:List (List Int)) (lv a:Int):Int:=match Qeg N ls lv a with|none=>-1|some p=>p.2
def leF (N:Qak) (ls:List (List Int)) (lv a:Int):Int:=match Qeg N ls lv a with|none=>-1|some p=>p.1
section
variable {N:Qak} {ls:List (List Int)}
theorem Qed {j a:Nat}{l:List Int}{y:Tri} (hl:ls[j]?=some l) (hy:N.ar[a]?=some y):Qeg N ls ((j:Int)+1) (a:Int)=if Qad l y.1=Qad l y.2.1 then none else some (Qad l y.1,Qad l y.2.1):=by
 have h1:=(Zs hl).1;have h2:=(Zs hy).1;unfold Qeg;rw [if_pos ⟨by omega,by omega,by omega,by omega⟩];have e1:ls.getD ((j:Int)+1-1).toNat []=l:=by rw [show ((j:Int)+1-1).toNat=j by omega,Ya,hl];rfl
 have e2:N.ar.getD ((a:Int)).toNat (0,0,0)=y:=by rw [Yl,Ya,hy];rfl
 rw [e1,e2]
theorem Qgn {lv a:Int} (h:¬(1≤lv∧lv≤(ls.length:Int)∧0≤a∧a<(N.ar.length:Int))):Qeg N ls lv a=none:=by
 unfold Qeg;rw [if_neg h]
theorem Qfu {lv a:Int}{p:Int×Int}(h:Qeg N ls lv a=some p):∃ (j b:Nat) (l:List Int) (y:Tri),lv=(j:Int)+1∧a=(b:Int)∧ls[j]?=some l∧N.ar[b]?=some y∧Qad l y.1≠Qad l y.2.1∧p=(Qad l y.1,Qad l y.2.1):=by
 by_cases h1:1≤lv∧lv≤(ls.length:Int)∧0≤a∧a<(N.ar.length:Int)
 · obtain ⟨j,rfl⟩:∃ j:Nat,lv=(j:Int)+1:=⟨(lv-1).toNat,by omega⟩
   obtain ⟨b,rfl⟩:∃ b:Nat,a=(b:Int):=⟨a.toNat,by omega⟩;obtain ⟨l,hl⟩:∃ l,ls[j]?=some l:=⟨_,Zg (by omega)⟩;obtain ⟨y,hy⟩:∃ y,N.ar[b]?=some y:=⟨_,Zg (by omega)⟩;rw [Qed hl hy] at h
   split at h
   · cases h
   · rename_i hne
     exact ⟨j,b,l,y,rfl,rfl,hl,hy,hne,(Yv h).symm⟩
 · rw [Qgn h1] at h
   cases h
theorem Qzo {lv f t:Int}(h0:0≤enF N ls lv f)(h1:leF N ls lv t=enF N ls lv f):∃ (a b j:Nat) (l:List Int) (y z:Tri),f=(a:Int)∧t=(b:Int)∧lv=(j:Int)+1∧ls[j]?=some l∧N.ar[a]?=some y∧N.ar[b]?=some z∧Qad l y.1≠Qad l y.2.1∧Qad l z.1=Qad l y.2.1∧Qad l z.2.1≠Qad l y.2.1∧enF N ls lv f=Qad l y.2.1:=by
 cases hc:Qeg N ls lv f with
 | none=>unfold enF at h0;rw [hc] at h0;simp at h0
 | some p =>
  obtain ⟨j,a,l,y,rfl,rfl,hl,hy,hne,rfl⟩:=Qfu hc;have e1:enF N ls ((j:Int)+1) (a:Int)=Qad l y.2.1:=by unfold enF;rw [hc]
  cases hd:Qeg N ls ((j:Int)+1) t with
  | none=>rw [e1] at h1 h0;unfold leF at h1;rw [hd] at h1;simp only at h1;omega
  | some q =>
   obtain ⟨j',b,l',z,e2,rfl,hl',hz,hne',rfl⟩:=Qfu hd;obtain rfl:j=j':=by omega
   rw [hl] at hl'
   cases hl'
   have e3:leF N ls ((j:Int)+1) (b:Int)=Qad l z.1:=by unfold leF;rw [hd]
   rw [e1,e3] at h1;exact ⟨a,b,j,l,y,z,rfl,rfl,rfl,hl,hy,hz,hne,h1,fun e=>hne' (by rw [h1,e]),e1⟩
theorem Qxx {lv f t:Int}(hok:Qas N)(hP:Qbc N.vs.length ls)(h:enF N ls lv f<0∨leF N ls lv t≠enF N ls lv f)(a b:Nat) (hf:f=(a:Int)) (ht:t=(b:Int)):¬LeapQ N ls lv a b:=by
 rintro ⟨j,l,y,z,rfl,hl,hy,hz,h1,h2,h3⟩;subst hf;subst ht;have e1:enF N ls ((j:Int)+1) (a:Int)=Qad l y.2.1:=by unfold enF;rw [Qed hl hy,if_neg h1]
 have e2:leF N ls ((j:Int)+1) (b:Int)=Qad l z.1:=by unfold leF;rw [Qed hl hz,if_neg (fun e=>h3 (by rw [←e,h2]))]
 rw [e1,e2] at h;obtain ⟨u,v,_,e3,_,hv⟩:=Qgj hok hy;obtain ⟨c,hc,_⟩:=Qdp (hP.lvl l (Zm hl)) hv;rw [←e3] at hc
 rcases h with h|h
 · omega
 · exact h h2
end
theorem gFrom_no (g:Nat)(N:Qak)(a:Int)(w:World)(h:Qen w g N) (ha:¬(0≤a∧a<(N.ar.length:Int))):Calls prog 143 #[.pointer (some ⟨g,0,none⟩),.int .i64 a] w fun e w'=>e=.returned (.int .i64 (-1))∧w=w':=by
 have HA:=Zh (Qiv g N a w h ha);clear h ha
 go_enter func143,ntmps143
 exact Kca
theorem gTo_no (g:Nat)(N:Qak)(a:Int)(w:World)(h:Qen w g N) (ha:¬(0≤a∧a<(N.ar.length:Int))):Calls prog 144 #[.pointer (some ⟨g,0,none⟩),.int .i64 a] w fun e w'=>e=.returned (.int .i64 (-1))∧w=w':=by
 have HA:=Zh (Qiv g N a w h ha);clear h ha
 go_enter func144,ntmps144
 exact Kca
theorem Qvf (g:Nat)(N:Qak)(a:Int)(w:World)(h:Qen w g N) (ha:¬(0≤a∧a<(N.ar.length:Int))):Calls prog 83 #[.pointer (some ⟨g,0,none⟩),.int .i64 a] w fun e w'=>e=.returned (.int .i64 1152921504606846976)∧w=w':=by
 have HA:=Zh (Qiv g N a w h ha);clear h ha
 go_enter func83,ntmps83
 exact Kca
theorem Qtf (g:Nat)(N:Qak)(a b:Int)(w:World)(h:Qen w g N) (ha:¬(0≤a∧a<(N.ar.length:Int))∨¬(0≤b∧b<(N.ar.length:Int))):Calls prog 82 #[.pointer (some ⟨g,0,none⟩),.int .i64 a,.int .i64 b] w fun e w'=>e=.returned (.int .i64 1152921504606846976)∧Below w.heap.size w w':=by
 by_cases h1:0≤a∧a<(N.ar.length:Int)
 · have HA:=Zh (Qga g N a w.drew (h.below (Zr _ _).drew) h1.1 h1.2)
   have HB:=Zh (Qiv g N b w.drew (h.below (Zr _ _).drew) (ha.resolve_left (fun h=>h h1)));clear h ha h1
   go_enter func82,ntmps82
   go_wp2_with fail
   refine wp_region_held_drew (S:=fun V=>V=w.drew) (by kernel_rfl) rfl (fun _=>?_);refine tz 0 8 ?_;refine tz 1 9 ?_;refine Zk 2 (fun K hK=>?_);go_simp;with_reducible refine HA.out.mono ?_
   rintro e w' ⟨rfl,rfl⟩;go_simp;refine hK.out _ _ rfl (fun _=>?_);clear hK K;refine tz 3 11 ?_;refine tz 4 12 ?_;refine tz 5 13 ?_;refine tz 6 14 ?_;refine Zk 7 (fun K hK=>?_);go_simp;with_reducible refine HB.out.mono ?_
   rintro e w' ⟨rfl,rfl⟩;go_simp;refine hK.out _ _ rfl (fun _=>?_);clear hK K;refine tz 8 16 ?_;refine tz 9 17 ?_;refine tz 10 18 ?_;refine tw 11 19 ?_;refine tw 12 20 ?_;refine tw 13 21 ?_;refine tw 14 22 ?_;refine tw 15 23 ?_;refine tw 16 24 ?_;refine tw 17 25 ?_;refine tw 18 26 ?_;refine tw 19 27 ?_;refine tw 20 28 ?_;refine tw 21 29 ?_;refine tw 22 30 ?_;refine tw 23 31 ?_;refine tw 24 32 ?_;refine tw 25 33 ?_;refine tw 26 34 ?_;refine tw 27 35 ?_;refine tw 28 36 ?_;refine tw 29 37 ?_;refine tz 30 38 ?_;refine Zd ?_
   exact Kct
 · have HA:=Zh (Qiv g N a w.drew (h.below (Zr _ _).drew) h1)
   clear h ha h1
   go_enter func82,ntmps82
   go_wp2_with fail
   refine wp_region_held_drew (S:=fun V=>V=w.drew) (by kernel_rfl) rfl (fun _=>?_);refine tz 0 8 ?_;refine tz 1 9 ?_;refine Zk 2 (fun K hK=>?_);go_simp;with_reducible refine HA.out.mono ?_
   rintro e w' ⟨rfl,rfl⟩;go_simp;refine hK.out _ _ rfl (fun _=>?_);clear hK K;refine tz 3 11 ?_;refine tz 4 12 ?_;refine tw 5 13 ?_;refine tw 6 14 ?_;refine tw 7 15 ?_;refine tw 8 16 ?_;refine tz 9 17 ?_;refine tz 10 18 ?_;refine tw 11 19 ?_;refine tw 12 20 ?_;refine tw 13 21 ?_;refine tw 14 22 ?_;refine tw 15 23 ?_;refine tw 16 24 ?_;refine tw 17 25 ?_;refine tw 18 26 ?_;refine tw 19 27 ?_;refine tw 20 28 ?_;refine tw 21 29 ?_;refine tw 22 30 ?_;refine tw 23 31 ?_;refine tw 24 32 ?_;refine tw 25 33 ?_;refine tw 26 34 ?_;refine tw 27 35 ?_;refine tw 28 36 ?_;refine tw 29 37 ?_;refine tz 30 38 ?_;refine Zd ?_
   exact Kct
def Qrd (N:Qak) (ls:List (List Int)) (lv a:Int):Ending:=.returned (.tuple #[.int .i64 (leF N ls lv a),.int .i64 (enF N ls lv a)])
set_option maxHeartbeats 2000000 in
theorem Qqt (w:World)(g:Nat)(N:Qak) (ls:List (List Int)) (Q:Option Addr) (L cq:Nat) (lv a:Int) (hg:Qen w g N) (hq:RdT w Q L ls) (hok:Qas N) (hP:Qbc N.vs.length ls) :
 Calls prog 115 #[.pointer (some ⟨g,0,none⟩),.agg #[.slice Q L cq],.int .i64 lv,.int .i64 a] w fun e w'=>e=Qrd N ls lv a∧Below w.heap.size w w':=by
 have hL:=hq.1;have HNO:=Zh (fun (h:¬(1≤lv∧lv≤(ls.length:Int)∧0≤a∧a<(N.ar.length:Int)))=>(show (Ending.returned (.tuple #[.int .i64 (-1),.int .i64 (-1)]):Ending)=Qrd N ls lv a by unfold Qrd leF enF;rw [Qgn h]))
 by_cases i1:lv<1
 · have HE:=Zh (HNO.out (by omega))
   clear hg hq hok hP hL HNO
   go_enter func115,ntmps115
   exact Kbb
 by_cases i2:(L:Int)<lv
 · have HE:=Zh (HNO.out (by omega))
   clear hg hq hok hP hL HNO
   go_enter func115,ntmps115
   exact Kbb
 obtain ⟨j,rfl⟩:∃ j:Nat,lv=(j:Int)+1:=⟨(lv-1).toNat,by omega⟩;obtain ⟨qb,qo,A',n',c',l,rfl,hl,q1,q2,q3,q4⟩:=hq.at_ (i:=j) (by omega);have hln:=(hP.lvl l (Zm hl)).len;have hn':n'=N.vs.length:=by rw [←q2.1];exact hln
 have hL6:=hP.l6;have i3:(j:Int)+1-1=(j:Int):=by omega
 have i4:(0:Int)≤(j:Int):=by omega
 have i5:(j:Int)<(L:Int):=by omega
 have wj:IntKind.i64.wrap (j:Int)=(j:Int):=IntWalk.i64_in _ (by omega);have hb1:Below w.heap.size w (w.alloc (.cells #[.slice (some ⟨qb,qo,none⟩) L cq] 132)):=Qag
 by_cases ha:0≤a∧a<(N.ar.length:Int)
 · obtain ⟨b,rfl⟩:∃ b:Nat,a=(b:Int):=⟨a.toNat,by omega⟩
   obtain ⟨y,hy⟩:∃ y,N.ar[b]?=some y:=⟨_,Zg (by omega)⟩;obtain ⟨u,v,e1,e2,hu,hv⟩:=Qgj hok hy;have HF:=Zh (Qhw g b N y _ (hg.below hb1) hy);have HT:=Zh (Qhs g b N y _ (hg.below hb1) hy);rw [e1] at HF;rw [e2] at HT;obtain ⟨rb,ro,zu,rfl,hzu,cu⟩:=q2.at_ (i:=u) (by omega);obtain ⟨_,_,zv,er,hzv,cv⟩:=q2.at_ (i:=v) (by omega)
   cases er
   have HE:=Zh (show Qrd N ls ((j:Int)+1) (b:Int)=if zu=zv then .returned (.tuple #[.int .i64 (-1),.int .i64 (-1)]) else .returned (.tuple #[.int .i64 zu,.int .i64 zv]) from by
    unfold Qrd leF enF;rw [Qed hl hy,e1,e2,Qat hzu,Qat hzv]
    by_cases e:zu=zv
    · rw [if_pos e,if_pos e]
    · rw [if_neg e,if_neg e])
   have k1:=Zc hb1 (Zn _) q1;have k2:=Zc hb1 (Zn _) cu;have k3:=Zc hb1 (Zn _) cv;have p0:decide ((u:Int)<0)=false:=by simp
   have p1:decide ((v:Int)<0)=false:=by simp
   have p2:decide (n'≤u)=false:=by simp;omega
   have p3:decide (n'≤v)=false:=by simp;omega
   have p4:(0:Int)≤(u:Int):=by omega
   have p5:(0:Int)≤(v:Int):=by omega
   have p6:(u:Int)<(n':Int):=by omega
   have p7:(v:Int)<(n':Int):=by omega
   have HSX:=Zh (show ∀ V,V=(w.alloc (.cells #[.slice (some ⟨qb,qo,none⟩) L cq] 132)).drew→V.cell? ⟨rb,ro+u,none⟩=some (.int .i64 zu)∧V.cell? ⟨rb,ro+v,none⟩=some (.int .i64 zv) from fun V e=>by subst e;exact ⟨k2,k3⟩)
   clear hg hq hok hP hl hy hu hv hzu hzv e1 e2 q1 q2 cu cv hb1 ha hln hn' HNO
   go_enter func115,ntmps115
   go_wp2_with fail
   with_reducible refine HF.out.mono ?_
   rintro e w' ⟨rfl,rfl⟩
   go_wp2_with fail
   with_reducible refine HT.out.mono ?_
   rintro e w' ⟨rfl,rfl⟩
   go_wp2_with fail
   refine wp_region_held_drew (S:=fun V=>V=(w.alloc (.cells #[.slice (some ⟨qb,qo,none⟩) L cq] 132)).drew) (by kernel_rfl) rfl (fun _=>?_)
   by_cases e:zu=zv
   · have HE:=Zh ((HE.out.trans (if_pos e)).symm)
     have e4:(zu == zv)=true:=by simp [e]
     refine tz 0 34 ?_;refine tz 1 35 ?_;refine tz 2 36 ?_;refine tz 3 37 ?_;refine tz 4 38 ?_;refine tz 5 39 ?_;refine tz 6 40 ?_;refine tz 7 41 ?_;refine tz 8 42 ?_;refine tz 9 43 ?_;refine tz 10 44 ?_;refine tz 11 45 ?_;refine tz 12 46 ?_;refine tz 13 47 ?_;refine tz 14 48 ?_;refine tz 15 49 ?_;refine tz 16 50 ?_;refine tz 17 51 ?_;refine tz 18 52 ?_;refine tz 19 53 ?_;refine tz 20 54 ?_;refine tz 21 55 ?_;refine tz 22 56 ?_;refine tz 23 57 ?_;refine tz 24 58 ?_;refine tz 25 59 ?_;refine tz 26 60 ?_;refine tz 27 61 ?_;refine tz 28 62 ?_;refine Zd ?_
     exact Kbb
   · have HE:=Zh ((HE.out.trans (if_neg e)).symm)
     have e4:(zu == zv)=false:=by simp [e]
     refine tz 0 34 ?_;refine tz 1 35 ?_;refine tz 2 36 ?_;refine tz 3 37 ?_;refine tz 4 38 ?_;refine tz 5 39 ?_;refine tz 6 40 ?_;refine tz 7 41 ?_;refine tz 8 42 ?_;refine tz 9 43 ?_;refine tz 10 44 ?_;refine tz 11 45 ?_;refine tz 12 46 ?_;refine tz 13 47 ?_;refine tz 14 48 ?_;refine tz 15 49 ?_;refine tz 16 50 ?_;refine tz 17 51 ?_;refine tz 18 52 ?_;refine tz 19 53 ?_;refine tz 20 54 ?_;refine tz 21 55 ?_;refine tz 22 56 ?_;refine tz 23 57 ?_;refine tz 24 58 ?_;refine tz 25 59 ?_;refine tz 26 60 ?_;refine tz 27 61 ?_;refine tz 28 62 ?_;refine Zd ?_;clear HSX;have HSX:=Zh (show ∀ V,V=(w.alloc (.cells #[.slice (some ⟨qb,qo,none⟩) L cq] 132)).drew.drew→V.cell? ⟨rb,ro+u,none⟩=some (.int .i64 zu)∧V.cell? ⟨rb,ro+v,none⟩=some (.int .i64 zv) from fun V e=>by subst e;exact ⟨k2,k3⟩)
     go_wp2_with fail
     refine wp_region_held_drew (S:=fun V=>V=(w.alloc (.cells #[.slice (some ⟨qb,qo,none⟩) L cq] 132)).drew.drew) (by kernel_rfl) rfl (fun _=>?_);refine tz 0 63 ?_;refine tz 1 64 ?_;refine tz 2 65 ?_;refine tz 3 66 ?_;refine tz 4 67 ?_;refine tz 5 68 ?_;refine tz 6 69 ?_;refine tz 7 70 ?_;refine tz 8 8 ?_;refine tz 9 9 ?_;refine Zd ?_
     go_wp2_with fail
     refine bodyPost_ret (v:=.tuple #[.int .i64 zu,.int .i64 zv]) (by simp [results,results115,go_sem]) rfl ?_;exact ⟨HE.out,Qag⟩
 · have HF:=Zh (gFrom_no g N a _ (hg.below hb1) ha)
   have HT:=Zh (gTo_no g N a _ (hg.below hb1) ha);have HE:=Zh (HNO.out (by omega));have k1:=Zc hb1 (Zn _) q1;clear hg hq hok hP hl q1 q2 hb1 ha hln hn' HNO
   go_enter func115,ntmps115
   go_wp2_with fail
   with_reducible refine HF.out.mono ?_
   rintro e w' ⟨rfl,rfl⟩
   go_wp2_with fail
   with_reducible refine HT.out.mono ?_
   rintro e w' ⟨rfl,rfl⟩
   go_wp2_with fail
   refine wp_region_held_drew (S:=fun V=>V=(w.alloc (.cells #[.slice (some ⟨qb,qo,none⟩) L cq] 132)).drew) (by kernel_rfl) rfl (fun _=>?_);refine tz 0 34 ?_;refine tz 1 35 ?_;refine tz 2 36 ?_;refine tw 3 37 ?_;refine tw 4 38 ?_;refine tz 5 39 ?_;refine tz 6 40 ?_;refine tw 7 41 ?_;refine tw 8 42 ?_;refine tw 9 43 ?_;refine tw 10 44 ?_;refine tz 11 45 ?_;refine tz 12 46 ?_;refine tw 13 47 ?_;refine tw 14 48 ?_;refine tw 15 49 ?_;refine tw 16 50 ?_;refine tz 17 51 ?_;refine tz 18 52 ?_;refine tw 19 53 ?_;refine tw 20 54 ?_;refine tw 21 55 ?_;refine tw 22 56 ?_;refine tw 23 57 ?_;refine tw 24 58 ?_;refine tw 25 59 ?_;refine tw 26 60 ?_;refine tw 27 61 ?_;refine tz 28 62 ?_;refine Zd ?_
   exact Kbb
theorem Qrs (w:World)(g:Nat)(N:Qak) (ls:List (List Int)) (Q:Option Addr) (L cq:Nat) (lv a:Int) (hg:Qen w g N) (hq:RdT w Q L ls) (hok:Qas N) (hP:Qbc N.vs.length ls) :
 Calls prog 59 #[.pointer (some ⟨g,0,none⟩),.agg #[.slice Q L cq],.int .i64 lv,.int .i64 a] w fun e w'=>e=.returned (.int .i64 (enF N ls lv a))∧Below w.heap.size w w':=by
 have hb1:Below w.heap.size w (w.alloc (.cells #[.slice Q L cq] 132)):=Qag;have HE:=Zh (Qqt _ g N ls Q L cq lv a (hg.below hb1) (hq.below hb1) hok hP);clear hg hq hok hP
 go_enter func59,ntmps59
 exact Kcf
theorem Qsx (w:World)(g:Nat)(N:Qak) (ls:List (List Int)) (Q:Option Addr) (L cq:Nat) (lv a:Int) (hg:Qen w g N) (hq:RdT w Q L ls) (hok:Qas N) (hP:Qbc N.vs.length ls) :
 Calls prog 60 #[.pointer (some ⟨g,0,none⟩),.agg #[.slice Q L cq],.int .i64 lv,.int .i64 a] w fun e w'=>e=.returned (.int .i64 (leF N ls lv a))∧Below w.heap.size w w':=by
 have hb1:Below w.heap.size w (w.alloc (.cells #[.slice Q L cq] 132)):=Qag;have HE:=Zh (Qqt _ g N ls Q L cq lv a (hg.below hb1) (hq.below hb1) hok hP);clear hg hq hok hP
 go_enter func60,ntmps60
 exact Kcf
set_option maxHeartbeats 1000000 in
theorem Qvh (xA xB xC xQ xG:Value)(AE:Option Addr)(S ce k e1 e2 e3 e4:Nat)(EL:List Ent)(w:World) (h:Rds w 4 AE S (Qer EL)) (hS:EL.length=S) (hS2:S≤1000000000) (hk:EL[k]?=some (e1,e2,e3,e4)) (hu:∀ i f,i<k→EL[i]?=some f→f≠(e1,e2,e3,e4)) :
 Calls prog 75 #[.agg #[xA,xB,xC,xQ,xG,.slice AE S ce],.int .i64 ((e1:Int)+1),.int .i64 e2,.int .i64 e3,.int .i64 e4] w fun e w'=>e=.returned (.int .i64 k)∧Below w.heap.size w w':=by
 have hkS:k<S:=by rw [←hS];exact (Zs hk).1
 have HE:=Zh h;have HK:=Zh hk;have HU:=Zh hu;have HS:=Zh hS;clear h hk hu hS
 go_enter func75,ntmps75
 go_wp2_with fail
 (refine Qai ?_;intro w1 hw1)
 have HB1:=Zh (show Below w.heap.size w w1 by rw [hw1];exact Qag)
 have HX:=Zh (show Blk w1 w.heap.size 57 #[xA,xB,xC,xQ,xG,.slice AE S ce] by rw [hw1];refine Blk.new' _ _ _ ?_;rfl)
 clear hw1
 go_loopw [11] (fun q W=>∃ i:Nat,i≤k∧q=.int .i64 i∧Below w1.heap.size w1 W) (fun q _=>k+1-(intOf q).toNat)
 case atStart=>exact ⟨0,Nat.zero_le _,rfl,Zr _ _⟩
 case round =>
  obtain ⟨i,hi,rfl,hbl⟩:=hrel;have hXr:=HX.out.below hbl HX.out.lt;have HBL:=Zh (Zb HB1.out hbl);have x5:wr.cell? ⟨w.heap.size,5,none⟩=some (.slice AE S ce):=Zq hXr;obtain ⟨⟨il,iq,ia,ib⟩,he⟩:∃ e,EL[i]?=some e:=⟨_,Zg (by rw [HS.out];omega)⟩;have hEr:=HE.out.below HBL.out;have hc:=fun (q:Nat) (u:Value) (hq:q<4) (hu:(Qhr (il,iq,ia,ib))[q]?=some u)=>hEr.2 (i*4+q) u (by rw [Qoy EL i _ he q hq];exact hu)
  obtain ⟨eb,eo,rfl,c0⟩:=hc 0 _ (by omega) rfl;obtain ⟨_,_,g1,c1⟩:=hc 1 _ (by omega) rfl
  cases g1
  obtain ⟨_,_,g2,c2⟩:=hc 2 _ (by omega) rfl
  cases g2
  obtain ⟨_,_,g3,c3⟩:=hc 3 _ (by omega) rfl
  cases g3
  rw [←Nat.add_assoc] at c0 c1 c2 c3;rw [Nat.add_zero] at c0;simp only at c0 c1 c2 c3;have j1:(i:Int)<(S:Int):=by omega
  have j2:(0:Int)≤(i:Int):=by omega
  by_cases hlt:i<k
  · have hne:¬((il:Int)+1=(e1:Int)+1∧(iq:Int)=(e2:Int)∧(ia:Int)=(e3:Int)∧(ib:Int)=(e4:Int)):=fun ⟨g1,g2,g3,g4⟩=>by
     refine HU.out i _ hlt he ?_;rw [show il=e1 by omega,show iq=e2 by omega,show ia=e3 by omega,show ib=e4 by omega]
    clear he hEr hc hXr
    go_wp2_with fail
    all_goals (try exact absurd ⟨by omega,by omega,by omega,by omega⟩ hne)
    all_goals exact ⟨⟨i+1,by omega,by go_num,hbl⟩,by simp [intOf];omega⟩
  · obtain rfl:i=k:=by omega
    have he':=HK.out;rw [he] at he'
    cases he'
    clear he hEr hc hXr
    go_wp2_with fail
    go_ret
    exact ⟨rfl,HBL.out⟩
theorem Qpt (Q:Option Addr)(L cq:Nat)(lv:Int)(w:World) (h:¬(1≤lv∧lv≤(L:Int))) :
 Calls prog 67 #[.agg #[.slice Q L cq],.int .i64 lv] w fun r w'=>r=.returned (.bool false)∧Below w.heap.size w w':=by
 by_cases i1:1≤lv
 · have i2:¬lv≤(L:Int):=fun h2=>h ⟨i1,h2⟩
   clear h
   go_enter func67,ntmps67
   exact Kaz
 · clear h
   go_enter func67,ntmps67
   exact Kaz
set_option maxHeartbeats 2000000 in
theorem Qht (A B C Q:Option Addr)(n m k c d e L cq:Nat)(N:Qak) (ls:List (List Int)) (lv a:Int) (w:World) (h:Qbg w A B C n m k N) (hok:Qas N) (hq:RdT w Q L ls) (hP:Qbc N.vs.length ls) :
 Calls prog 68 #[.agg #[.slice A n c,.slice B m d,.slice C k e],.agg #[.slice Q L cq],.int .i64 lv,.int .i64 a] w fun r w'=>r=.returned (.int .i64 (enF N ls lv a))∧Below w.heap.size w w':=by
 have hL6:L≤6:=by rw [←hq.1];exact hP.l6
 have HLL:=Zh hq.1;have HM:=Zh h.2.1.1;have hm:m≤16384:=by rw [←h.2.1.1];exact hok.la
 have HH:=Zh h;have HT:=Zh hq;have HOK:=Zh hok;have HP:=Zh hP;clear h hok hq hP
 by_cases hr:1≤lv∧lv≤(L:Int)
 rotate_left
 · have HZ:=Zh (show enF N ls lv a = -1 by unfold enF;rw [Qgn (fun h=>hr ⟨h.1,by rw [←HLL.out];exact h.2.1⟩)])
   have HHA:=Zh (fun V=>Qpt Q L cq lv V hr);clear hr
   go_enter func68,ntmps68
   go_wp2_with fail
   (refine Qab ?_;intro w1 hw1)
   have HB1:=Zh (show Below w.heap.size w w1 by rw [hw1];exact Qag)
   exact Kcc
 obtain ⟨j,rfl⟩:∃ j:Nat,lv=(j:Int)+1:=⟨(lv-1).toNat,by omega⟩;have hj:j<L:=by omega
 clear hr;obtain ⟨qb,qo,A1,n1,c1,l,rfl,hl,q1,q2,_,_⟩:=HT.out.at_ (i:=j) hj;have HLV:=Zh (HP.out.lvl l (Zm hl));obtain rfl:n1=N.vs.length:=by rw [←q2.1];exact HLV.out.len
 have HQ1:=Zh q1;have HQ2:=Zh q2;have HL:=Zh hl;have HHA:=Zh (fun V=>Qib (some ⟨qb,qo,none⟩) L cq j V hj);have HCR:=Zh (fun V (hV:Below w.heap.size w V)=>Qhj A B C (some ⟨qb,qo,none⟩) n m k c d e L cq j N ls l V (HH.out.below hV) HOK.out (HT.out.below hV) hl HLV.out.len (by omega));have hcl:(Qax N.ar l).length≤16384:=Yx (Qfp _ _) HOK.out.la;clear q1 q2
 go_enter func68,ntmps68
 go_wp2_with fail
 (refine Qab ?_;intro w1 hw1)
 have HB1:=Zh (show Below w.heap.size w w1 by rw [hw1];exact Qag)
 have hX:Blk w1 w.heap.size 26 #[.slice A n c,.slice B m d,.slice C k e]:=by rw [hw1];exact Qay
 have hY:Blk w1 (w.heap.size+1) 29 #[.slice (some ⟨qb,qo,none⟩) L cq]:=by rw [hw1];exact Qay
 clear hw1 hl;with_reducible refine (HHA.out w1).mono ?_
 rintro r w2 ⟨rfl,hb2⟩;have hX2:=hX.below hb2 hX.lt;have hY2:=hY.below hb2 hY.lt;have HB2:=Zh (Zb HB1.out hb2);clear hb2 hX hY;obtain ⟨x0,x1,x2⟩:=hX2.three;have y0:=hY2.cell 0;simp only [Yo,Yn] at y0
 go_wp2_with fail
 with_reducible refine (HCR.out w2 HB2.out).mono ?_
 rintro r w3 ⟨A3,n3,c3,rfl,h3,_,hb3⟩;have HX3:=Zh (hX2.below hb3 hX2.lt);have HY3:=Zh (hY2.below hb3 hY2.lt);have HB3:=Zh (Zb HB2.out hb3);have HPL:=Zh (Qei A3 n3 c3 _ a w3 h3 (by rw [←h3.1];omega));clear hb3 h3 hX2 hY2 x0 x1 x2 y0
 go_wp2_with fail
 with_reducible refine HPL.out.mono ?_
 rintro r w' ⟨rfl,rfl⟩
 by_cases hin:a∈Qax N.ar l
 rotate_left
 · have HZ:=Zh (show enF N ls ((j:Int)+1) a = -1 by
    unfold enF
    cases hc:Qeg N ls ((j:Int)+1) a with
    | none=>rfl
    | some p =>
     obtain ⟨j',b,l',y,ej,rfl,hl',hy,hne,_⟩:=Qfu hc;obtain rfl:j=j':=by omega
     rw [HL.out] at hl'
     cases hl'
     exact absurd (Qcx.2 ⟨b,y,rfl,hy,hne⟩) hin)
   rw [Qcq hin];clear hin
   go_wp2_with fail
   go_ret
   rw [HZ.out];exact ⟨rfl,HB3.out⟩
 obtain ⟨p,hp,_⟩:=Qgg hin;obtain ⟨i,y,rfl,hy,hne⟩:=Qcx.1 hin;rw [hp];have HZ:=Zh (show enF N ls ((j:Int)+1) (i:Int)=Qad l (y.2.1) by unfold enF;rw [Qed HL.out hy,if_neg hne])
 have him:i<m:=by rw [←HM.out];exact (Zs hy).1
 obtain ⟨u,v,e1,e2,hu,hv⟩:=Qgj HOK.out hy;obtain ⟨ab,ao,rfl,d0,d1,d2⟩:=(HH.out.below HB3.out).2.1.2 i y hy;have hlen:=HLV.out.len;obtain ⟨lb,lo,z,rfl,hz,cz⟩:=(HQ2.out.below HB3.out).at_ (i:=v) (by omega);have HZZ:=Zh (show Qad l (y.2.1)=z by rw [e2];exact Qat hz)
 have hqc:=Zc HB3.out (Zn _) HQ1.out;rw [e2] at d1;have i1:¬((p:Int)<0):=by omega
 have i5:(j:Int)+1-1=(j:Int):=by omega
 have i6:(j:Int)<(L:Int):=by omega
 have i7:(0:Int)≤(j:Int):=by omega
 have wl:IntKind.i64.wrap (j:Int)=(j:Int):=IntWalk.i64_in _ (by omega);have k1:(i:Int)<(m:Int):=by omega
 have k2:(0:Int)≤(i:Int):=by omega
 have k3:((v:Nat):Int)<(N.vs.length:Int):=by omega
 have k4:(0:Int)≤((v:Nat):Int):=by omega
 have HSX:=Zh (show ∀ V,Below w3.heap.size w3 V→V.cell? ⟨w.heap.size,1,none⟩=some (.slice (some ⟨ab,ao,none⟩) m d)∧V.cell? ⟨w.heap.size+1,0,none⟩=some (.slice (some ⟨qb,qo,none⟩) L cq)∧V.cell? ⟨qb,qo+j,none⟩=some (.slice (some ⟨lb,lo,none⟩) N.vs.length c1)∧V.cell? ⟨ab,ao+i*3+1,none⟩=some (.int .i64 (v:Nat))∧V.cell? ⟨lb,lo+v,none⟩=some (.int .i64 z) from
  fun V hV=>⟨by rw [(HX3.out.below hV HX3.out.lt).cell];rfl,by rw [(HY3.out.below hV HY3.out.lt).cell];rfl,Zc hV (Zn _) hqc,Zc hV (Zn _) d1,Zc hV (Zn _) cz⟩)
 exact Kay
set_option maxHeartbeats 2000000 in
theorem Qhv (A B C Q:Option Addr)(n m k c d e L cq:Nat)(N:Qak) (ls:List (List Int)) (lv a:Int) (w:World) (h:Qbg w A B C n m k N) (hok:Qas N) (hq:RdT w Q L ls) (hP:Qbc N.vs.length ls) :
 Calls prog 69 #[.agg #[.slice A n c,.slice B m d,.slice C k e],.agg #[.slice Q L cq],.int .i64 lv,.int .i64 a] w fun r w'=>r=.returned (.int .i64 (leF N ls lv a))∧Below w.heap.size w w':=by
 have hL6:L≤6:=by rw [←hq.1];exact hP.l6
 have HLL:=Zh hq.1;have HM:=Zh h.2.1.1;have hm:m≤16384:=by rw [←h.2.1.1];exact hok.la
 have HH:=Zh h;have HT:=Zh hq;have HOK:=Zh hok;have HP:=Zh hP;clear h hok hq hP
 by_cases hr:1≤lv∧lv≤(L:Int)
 rotate_left
 · have HZ:=Zh (show leF N ls lv a = -1 by unfold leF;rw [Qgn (fun h=>hr ⟨h.1,by rw [←HLL.out];exact h.2.1⟩)])
   have HHA:=Zh (fun V=>Qpt Q L cq lv V hr);clear hr
   go_enter func69,ntmps69
   go_wp2_with fail
   (refine Qab ?_;intro w1 hw1)
   have HB1:=Zh (show Below w.heap.size w w1 by rw [hw1];exact Qag)
   exact Kcc
 obtain ⟨j,rfl⟩:∃ j:Nat,lv=(j:Int)+1:=⟨(lv-1).toNat,by omega⟩;have hj:j<L:=by omega
 clear hr;obtain ⟨qb,qo,A1,n1,c1,l,rfl,hl,q1,q2,_,_⟩:=HT.out.at_ (i:=j) hj;have HLV:=Zh (HP.out.lvl l (Zm hl));obtain rfl:n1=N.vs.length:=by rw [←q2.1];exact HLV.out.len
 have HQ1:=Zh q1;have HQ2:=Zh q2;have HL:=Zh hl;have HHA:=Zh (fun V=>Qib (some ⟨qb,qo,none⟩) L cq j V hj);have HCR:=Zh (fun V (hV:Below w.heap.size w V)=>Qhj A B C (some ⟨qb,qo,none⟩) n m k c d e L cq j N ls l V (HH.out.below hV) HOK.out (HT.out.below hV) hl HLV.out.len (by omega));have hcl:(Qax N.ar l).length≤16384:=Yx (Qfp _ _) HOK.out.la;clear q1 q2
 go_enter func69,ntmps69
 go_wp2_with fail
 (refine Qab ?_;intro w1 hw1)
 have HB1:=Zh (show Below w.heap.size w w1 by rw [hw1];exact Qag)
 have hX:Blk w1 w.heap.size 26 #[.slice A n c,.slice B m d,.slice C k e]:=by rw [hw1];exact Qay
 have hY:Blk w1 (w.heap.size+1) 29 #[.slice (some ⟨qb,qo,none⟩) L cq]:=by rw [hw1];exact Qay
 clear hw1 hl;with_reducible refine (HHA.out w1).mono ?_
 rintro r w2 ⟨rfl,hb2⟩;have hX2:=hX.below hb2 hX.lt;have hY2:=hY.below hb2 hY.lt;have HB2:=Zh (Zb HB1.out hb2);clear hb2 hX hY;obtain ⟨x0,x1,x2⟩:=hX2.three;have y0:=hY2.cell 0;simp only [Yo,Yn] at y0
 go_wp2_with fail
 with_reducible refine (HCR.out w2 HB2.out).mono ?_
 rintro r w3 ⟨A3,n3,c3,rfl,h3,_,hb3⟩;have HX3:=Zh (hX2.below hb3 hX2.lt);have HY3:=Zh (hY2.below hb3 hY2.lt);have HB3:=Zh (Zb HB2.out hb3);have HPL:=Zh (Qei A3 n3 c3 _ a w3 h3 (by rw [←h3.1];omega));clear hb3 h3 hX2 hY2 x0 x1 x2 y0
 go_wp2_with fail
 with_reducible refine HPL.out.mono ?_
 rintro r w' ⟨rfl,rfl⟩
 by_cases hin:a∈Qax N.ar l
 rotate_left
 · have HZ:=Zh (show leF N ls ((j:Int)+1) a = -1 by
    unfold leF
    cases hc:Qeg N ls ((j:Int)+1) a with
    | none=>rfl
    | some p =>
     obtain ⟨j',b,l',y,ej,rfl,hl',hy,hne,_⟩:=Qfu hc;obtain rfl:j=j':=by omega
     rw [HL.out] at hl'
     cases hl'
     exact absurd (Qcx.2 ⟨b,y,rfl,hy,hne⟩) hin)
   rw [Qcq hin];clear hin
   go_wp2_with fail
   go_ret
   rw [HZ.out];exact ⟨rfl,HB3.out⟩
 obtain ⟨p,hp,_⟩:=Qgg hin;obtain ⟨i,y,rfl,hy,hne⟩:=Qcx.1 hin;rw [hp];have HZ:=Zh (show leF N ls ((j:Int)+1) (i:Int)=Qad l (y.1) by unfold leF;rw [Qed HL.out hy,if_neg hne])
 have him:i<m:=by rw [←HM.out];exact (Zs hy).1
 obtain ⟨u,v,e1,e2,hu,hv⟩:=Qgj HOK.out hy;obtain ⟨ab,ao,rfl,d0,d1,d2⟩:=(HH.out.below HB3.out).2.1.2 i y hy;have hlen:=HLV.out.len;obtain ⟨lb,lo,z,rfl,hz,cz⟩:=(HQ2.out.below HB3.out).at_ (i:=u) (by omega);have HZZ:=Zh (show Qad l (y.1)=z by rw [e1];exact Qat hz)
 have hqc:=Zc HB3.out (Zn _) HQ1.out;rw [e1] at d0;have i1:¬((p:Int)<0):=by omega
 have i5:(j:Int)+1-1=(j:Int):=by omega
 have i6:(j:Int)<(L:Int):=by omega
 have i7:(0:Int)≤(j:Int):=by omega
 have wl:IntKind.i64.wrap (j:Int)=(j:Int):=IntWalk.i64_in _ (by omega);have k1:(i:Int)<(m:Int):=by omega
 have k2:(0:Int)≤(i:Int):=by omega
 have k3:((u:Nat):Int)<(N.vs.length:Int):=by omega
 have k4:(0:Int)≤((u:Nat):Int):=by omega
 have HSX:=Zh (show ∀ V,Below w3.heap.size w3 V→V.cell? ⟨w.heap.size,1,none⟩=some (.slice (some ⟨ab,ao,none⟩) m d)∧V.cell? ⟨w.heap.size+1,0,none⟩=some (.slice (some ⟨qb,qo,none⟩) L cq)∧V.cell? ⟨qb,qo+j,none⟩=some (.slice (some ⟨lb,lo,none⟩) N.vs.length c1)∧V.cell? ⟨ab,ao+i*3,none⟩=some (.int .i64 (u:Nat))∧V.cell? ⟨lb,lo+u,none⟩=some (.int .i64 z) from
  fun V hV=>⟨by rw [(HX3.out.below hV HX3.out.lt).cell];rfl,by rw [(HY3.out.below hV HY3.out.lt).cell];rfl,Zc hV (Zn _) hqc,Zc hV (Zn _) d0,Zc hV (Zn _) cz⟩)
 exact Kay
set_option maxHeartbeats 1000000 in
theorem Qwq (A B C:Option Addr)(n m k c d e:Nat)(N:Qak)(v:Int)(w:World)(h:Qbg w A B C n m k N)(hm:m≤16384) :
 Calls prog 127 #[.agg #[.slice A n c,.slice B m d,.slice C k e],.int .i64 v] w fun r w'=>∃ A' n' c',r=.returned (.slice A' n' c')∧RdI w' A' n' (idx (·.2.1) N.ar v)∧Below w.heap.size w w':=by
 have HH:=Zh h;have HM:=Zh h.2.1.1;clear h
 go_enter func127,ntmps127
 go_wp2_with fail
 (refine Qai ?_;intro w1 hw1)
 have hb1:Below w.heap.size w w1:=by rw [hw1];exact Qag
 have hX:Blk w1 w.heap.size 26 #[.slice A n c,.slice B m d,.slice C k e]:=by rw [hw1];exact Blk.new _ _ _
 clear hw1
 go_loopw [5,6] (fun z q V=>∃ (i:Nat) (A':Option Addr) (c':Nat),i≤m∧q=.int .i64 i∧z=.slice A' (idx (·.2.1) (N.ar.take i) v).length c'∧Own V w1.heap.size 3 1 A' (idx (·.2.1) (N.ar.take i) v).length c' (Qaf (idx (·.2.1) (N.ar.take i) v))∧Below w1.heap.size w1 V) (fun _ q _=>m-(intOf q).toNat)
 case atStart=>exact ⟨0,none,0,Nat.zero_le _,rfl,rfl,Own.nil _ _ _ _,Zr _ _⟩
 case round =>
  obtain ⟨i,A',c',hi,rfl,rfl,hown,hbl⟩:=hrel;have hXr:=hX.below hbl hX.lt;have x1:=hXr.cell 1;have xl:=hXr.lt;simp only [Yo,Yn,List.getElem?_cons_succ] at x1;have hbd:=Qep (·.2.1) N.ar i v;have HOW:=Zh hown;obtain ⟨no,hno⟩:∃ no,no=(idx (·.2.1) (N.ar.take i) v).length:=⟨_,rfl⟩;rw [←hno] at hbd ⊢;have HNO:=Zh hno;clear hown hno
  by_cases hlt:i<m
  rotate_left
  · obtain rfl:i=m:=by omega
    exact Kbt
  · have hbw:=Zb hb1 hbl
    obtain ⟨y,hy⟩:∃ y,N.ar[i]?=some y:=⟨_,Zg (by rw [HM.out];exact hlt)⟩;obtain ⟨b,o,rfl,c0,c1,c2⟩:=(HH.out.below hbw).2.1.2 i y hy;have HY:=Zh hy;have i1:(i:Int)<(m:Int):=by omega
    have i2:(0:Int)≤(i:Int):=by omega
    clear hy
    by_cases hv:y.2.1=v
    · have e1:(y.2.1 == v)=true:=by simpa using hv
      have hown2:=HOW.out;rw [←HNO.out] at hown2;obtain ⟨W2,hW2⟩:∃ W2,W2=wr.alloc (.cells #[.int .i64 i] 3):=⟨_,rfl⟩;have hown3:Own W2 w1.heap.size 3 1 A' no c' (Qaf (idx (·.2.1) (N.ar.take i) v)):=by rw [hW2];exact hown2.alloc _
      have hrd:Rds W2 1 (some ⟨wr.heap.size,0,none⟩) 1 (Qaf [(i:Int)]):=by rw [hW2];exact (Blk.new wr 3 #[.int .i64 i]).rds rfl
      have hba:Below w1.heap.size w1 W2:=by rw [hW2];exact Below.alloc hbl hbl.size _
      have hsz:w1.heap.size≤W2.heap.size:=hba.size;have HW2:=Zh hW2;have HE:=Zh hv;clear hW2 hown2 hv
      go_wp2_with (at_builtin;rw [←HW2.out];with_reducible refine Qan rfl (.tmp 22) (.tmp 24) 61 rfl 3 _ 1 8 Qbs underlying61 rfl (by omega) rfl rfl hown3 hrd (Qao _) (by omega) (by omega) hsz ?_)
      intro A3 c3 w8 ho8 hg8 _;have hb8:Below w1.heap.size w1 w8:=Zo hba hg8 hown3 hsz;have HO8:=Zh (show Own w8 w1.heap.size 3 1 A3 (no+1) c3 (Qaf (idx (·.2.1) (N.ar.take (i+1)) v)) by rw [Qeo HY.out,e1,if_pos rfl,Qbr];exact ho8)
      have HN1:=Zh (show (idx (·.2.1) (N.ar.take (i+1)) v).length=no+1 by rw [Qeo HY.out,e1,if_pos rfl,Yp,←HNO.out];rfl)
      exact Kbg
    · have e1:(y.2.1 == v)=false:=by simpa using hv
      have HN1:=Zh (show idx (·.2.1) (N.ar.take (i+1)) v=idx (·.2.1) (N.ar.take i) v by rw [Qeo HY.out,e1];simp)
      exact Kbz
set_option maxHeartbeats 1000000 in
theorem Qrr (A B C:Option Addr)(n m k c d e:Nat)(N:Qak)(v:Int)(w:World)(h:Qbg w A B C n m k N)(hm:m≤16384) :
 Calls prog 128 #[.agg #[.slice A n c,.slice B m d,.slice C k e],.int .i64 v] w fun r w'=>∃ A' n' c',r=.returned (.slice A' n' c')∧RdI w' A' n' (idx (·.1) N.ar v)∧Below w.heap.size w w':=by
 have HH:=Zh h;have HM:=Zh h.2.1.1;clear h
 go_enter func128,ntmps128
 go_wp2_with fail
 (refine Qai ?_;intro w1 hw1)
 have hb1:Below w.heap.size w w1:=by rw [hw1];exact Qag
 have hX:Blk w1 w.heap.size 26 #[.slice A n c,.slice B m d,.slice C k e]:=by rw [hw1];exact Blk.new _ _ _
 clear hw1
 go_loopw [5,6] (fun z q V=>∃ (i:Nat) (A':Option Addr) (c':Nat),i≤m∧q=.int .i64 i∧z=.slice A' (idx (·.1) (N.ar.take i) v).length c'∧Own V w1.heap.size 3 1 A' (idx (·.1) (N.ar.take i) v).length c' (Qaf (idx (·.1) (N.ar.take i) v))∧Below w1.heap.size w1 V) (fun _ q _=>m-(intOf q).toNat)
 case atStart=>exact ⟨0,none,0,Nat.zero_le _,rfl,rfl,Own.nil _ _ _ _,Zr _ _⟩
 case round =>
  obtain ⟨i,A',c',hi,rfl,rfl,hown,hbl⟩:=hrel;have hXr:=hX.below hbl hX.lt;have x1:=hXr.cell 1;have xl:=hXr.lt;simp only [Yo,Yn,List.getElem?_cons_succ] at x1;have hbd:=Qep (·.1) N.ar i v;have HOW:=Zh hown;obtain ⟨no,hno⟩:∃ no,no=(idx (·.1) (N.ar.take i) v).length:=⟨_,rfl⟩;rw [←hno] at hbd ⊢;have HNO:=Zh hno;clear hown hno
  by_cases hlt:i<m
  rotate_left
  · obtain rfl:i=m:=by omega
    exact Kbt
  · have hbw:=Zb hb1 hbl
    obtain ⟨y,hy⟩:∃ y,N.ar[i]?=some y:=⟨_,Zg (by rw [HM.out];exact hlt)⟩;obtain ⟨b,o,rfl,c0,c1,c2⟩:=(HH.out.below hbw).2.1.2 i y hy;have HY:=Zh hy;have i1:(i:Int)<(m:Int):=by omega
    have i2:(0:Int)≤(i:Int):=by omega
    clear hy
    by_cases hv:y.1=v
    · have e1:(y.1 == v)=true:=by simpa using hv
      have hown2:=HOW.out;rw [←HNO.out] at hown2;obtain ⟨W2,hW2⟩:∃ W2,W2=wr.alloc (.cells #[.int .i64 i] 3):=⟨_,rfl⟩;have hown3:Own W2 w1.heap.size 3 1 A' no c' (Qaf (idx (·.1) (N.ar.take i) v)):=by rw [hW2];exact hown2.alloc _
      have hrd:Rds W2 1 (some ⟨wr.heap.size,0,none⟩) 1 (Qaf [(i:Int)]):=by rw [hW2];exact (Blk.new wr 3 #[.int .i64 i]).rds rfl
      have hba:Below w1.heap.size w1 W2:=by rw [hW2];exact Below.alloc hbl hbl.size _
      have hsz:w1.heap.size≤W2.heap.size:=hba.size;have HW2:=Zh hW2;have HE:=Zh hv;clear hW2 hown2 hv
      go_wp2_with (at_builtin;rw [←HW2.out];with_reducible refine Qan rfl (.tmp 22) (.tmp 24) 61 rfl 3 _ 1 8 Qbs underlying61 rfl (by omega) rfl rfl hown3 hrd (Qao _) (by omega) (by omega) hsz ?_)
      intro A3 c3 w8 ho8 hg8 _;have hb8:Below w1.heap.size w1 w8:=Zo hba hg8 hown3 hsz;have HO8:=Zh (show Own w8 w1.heap.size 3 1 A3 (no+1) c3 (Qaf (idx (·.1) (N.ar.take (i+1)) v)) by rw [Qeo HY.out,e1,if_pos rfl,Qbr];exact ho8)
      have HN1:=Zh (show (idx (·.1) (N.ar.take (i+1)) v).length=no+1 by rw [Qeo HY.out,e1,if_pos rfl,Yp,←HNO.out];rfl)
      exact Kbg
    · have e1:(y.1 == v)=false:=by simpa using hv
      have HN1:=Zh (show idx (·.1) (N.ar.take (i+1)) v=idx (·.1) (N.ar.take i) v by rw [Qeo HY.out,e1];simp)
      exact Kbz
set_option maxHeartbeats 2000000 in
theorem Qvn (A B C:Option Addr)(n m k c d e:Nat)(N:Qak)(a b:Nat)(x y:Tri)(w:World)(h:Qbg w A B C n m k N)(hok:Qas N) (hx:N.ar[a]?=some x) (hy:N.ar[b]?=some y) :
 Calls prog 73 #[.agg #[.slice A n c,.slice B m d,.slice C k e],.int .i64 a,.int .i64 b] w fun r w'=>r=.returned (.int .i64 (Qaw N a b))∧Below w.heap.size w w':=by
 have HH:=Zh h;have hm:m≤16384:=by rw [←h.2.1.1];exact hok.la
 have hlm:N.ar.length=m:=h.2.1.1;have hln:N.vs.length=n:=h.1.1;have hn4:=hok.lv;have hla:=(Zs hx).1;have hlb:=(Zs hy).1;have hax:=hok.arcs x (Zm hx);obtain ⟨bb,o,x1,x2,x3,rfl,hx',ax,ay,az⟩:=h.2.1.at_ (i:=a) (by omega);rw [hx] at hx'
 cases hx'
 obtain ⟨bb',o',y1,y2,y3,e',hy',bx,by_,bz⟩:=h.2.1.at_ (i:=b) (by omega)
 cases e'
 rw [hy] at hy'
 cases hy'
 have i1:(0:Int)≤(a:Int):=by omega
 have i2:(a:Int)<(m:Int):=by omega
 have i3:(0:Int)≤(b:Int):=by omega
 have i4:(b:Int)<(m:Int):=by omega
 obtain ⟨v,rfl⟩:∃ v:Nat,x2=(v:Int):=⟨x2.toNat,by have:=hax.g0;simp only at this;omega⟩;have hvn:v<n:=by have:=hax.g1;simp only at this;omega
 obtain ⟨b2,o2,v1,v2,v3,hA2,hv,vx,vy,vz⟩:=h.1.at_ (i:=v) hvn;subst hA2;have hvo:=hok.verts _ (Zm hv);obtain ⟨t,rfl⟩:∃ t:Nat,v3=(t:Int):=⟨v3.toNat,by have:=hvo.t0;simp only at this;omega⟩;have htl:N.ts.length=k:=h.2.2.1;have htk:t<k:=by have:=hvo.t1;simp only at this;omega
 obtain ⟨b3,o3,tb,hA3,htb,t0,t1,AT,nT,cT,t2,hrd,hnT,hcT⟩:=h.2.2.at_ htk;subst hA3;have hto:=hok.tabs tb (Zm htb);have hk:=hok.lt;have hmt:=hok.meet v _ tb hv (by simpa using htb);obtain ⟨i,hi⟩:∃ i:Nat,i=(idx (·.2.1) (N.ar.take a) (v:Int)).length:=⟨_,rfl⟩;have hip:(i:Int)<tb.ins:=by rw [←hmt.1,hi];exact_mod_cast Qgv (f:=(·.2.1)) hx rfl
 obtain ⟨q,hq⟩:∃ q:Nat,q=(idx (·.1) (N.ar.take b) y1).length:=⟨_,rfl⟩;have hqp:y1=(v:Int)→(q:Int)<tb.outs:=fun e=>by rw [←hmt.2,hq,e];exact_mod_cast Qgv (f:=(·.1)) hy e
 have hpi:plI (idx (·.2.1) N.ar (v:Int)) (a:Int)=(i:Int):=by rw [hi];exact Qry (f:=(·.2.1)) hx
 have hpq:y1=(v:Int)→plI (idx (·.1) N.ar (v:Int)) (b:Int)=(q:Int):=fun e=>by rw [hq,←e];exact Qry (f:=(·.1)) hy
 have HTN:=Zh (show ∀ z,y1=(v:Int)→tb.costs[i*tb.outs.toNat+q]?=some z→Qaw N a b=z from fun z e hz=>by
  unfold Qaw;rw [hx,hy];simp only [if_pos e.symm,Yl,hv,htb,Qgi,←hi,←hq];rw [Ya,hz]
  rfl)
 have i5:(0:Int)≤(v:Int):=by omega
 have i6:(v:Int)<(n:Int):=by omega
 have i7:(0:Int)≤(t:Int):=by omega
 have i8:(t:Int)<(k:Int):=by omega
 have hil:(idx (·.2.1) N.ar (v:Int)).length≤16384:=by have:=Qep (·.2.1) N.ar N.ar.length (v:Int);rw [List.take_length] at this;omega
 have hol:(idx (·.1) N.ar (v:Int)).length≤16384:=by have:=Qep (·.1) N.ar N.ar.length (v:Int);rw [List.take_length] at this;omega
 have HTA:=Zh (fun V (hV:Below w.heap.size w V) (e:y1=(v:Int))=>Qjh AT nT cT tb i q V (hrd.below hV) hto hip (hqp e));have HIN:=Zh (fun V (hV:Below w.heap.size w V)=>Qwq _ _ _ n m k c d e N (v:Int) V (HH.out.below hV) hm);have HOU:=Zh (fun V (hV:Below w.heap.size w V)=>Qrr _ _ _ n m k c d e N (v:Int) V (HH.out.below hV) hm);have HPI:=Zh hpi;have HPQ:=Zh hpq;have HIL:=Zh hil;have HOL:=Zh hol
 have HMM:=Zh (show (v:Int)≠y1→Qaw N a b=1152921504606846976 from fun hne=>by
  unfold Qaw;rw [hx,hy];simp only [if_neg hne])
 have HY:=Zh (show ∀ V,Below w.heap.size w V→V.cell? ⟨bb,o+a*3+1,none⟩=some (.int .i64 (v:Int))∧V.cell? ⟨bb,o+b*3,none⟩=some (.int .i64 y1) ∧
  V.cell? ⟨b2,o2+v*3+2,none⟩=some (.int .i64 t) ∧
  V.cell? ⟨b3,o3+t*3,none⟩=some (.int .i64 tb.ins)∧V.cell? ⟨b3,o3+t*3+1,none⟩=some (.int .i64 tb.outs)∧V.cell? ⟨b3,o3+t*3+2,none⟩=some (.slice AT nT cT) from
  fun V hV=>⟨Zc hV (Zn _) ay,Zc hV (Zn _) bx,Zc hV (Zn _) vz,Zc hV (Zn _) t0,Zc hV (Zn _) t1,Zc hV (Zn _) t2⟩)
 clear vx vy vz t0 t1 t2 hrd hip hqp hmt hv htb hi hq hpi hpq hil hol hto hvo hax hok hnT hcT;clear h ax ay az bx by_ bz hx hy
 go_enter func73,ntmps73
 go_wp2_with fail
 (refine Qai ?_;intro w1 hw1)
 have hb1:Below w.heap.size w w1:=by rw [hw1];exact Qag
 have hX:Blk w1 w.heap.size 26 #[.slice (some ⟨b2,o2,none⟩) n c,.slice (some ⟨bb,o,none⟩) m d,.slice (some ⟨b3,o3,none⟩) k e]:=by rw [hw1];exact Blk.new _ _ _
 clear hw1
 have HSX:=Zh (show ∀ V,Below w1.heap.size w1 V→V.cell? ⟨w.heap.size,0,none⟩=some (.slice (some ⟨b2,o2,none⟩) n c)∧V.cell? ⟨w.heap.size,1,none⟩=some (.slice (some ⟨bb,o,none⟩) m d)∧V.cell? ⟨w.heap.size,2,none⟩=some (.slice (some ⟨b3,o3,none⟩) k e)∧_ from
  fun V hV=>⟨by rw [(hX.below hV hX.lt).cell];rfl,by rw [(hX.below hV hX.lt).cell];rfl,by rw [(hX.below hV hX.lt).cell];rfl,HY.out V (Zb hb1 hV)⟩)
 clear HY hX;refine wp_region_held_drew (S:=fun V=>Below w1.heap.size w1 V) (by kernel_rfl) (Zr _ _).drew (fun _=>?_);refine tz 0 8 ?_;refine tz 1 9 ?_;refine Zk 2 (fun K hK=>?_);go_simp;with_reducible refine (Qbx _ _ _ n m k c d e (a:Int) _ i1 i2).mono ?_
 rintro r w2 ⟨rfl,hb2⟩;have hb2':Below w1.heap.size w1 w2:=(Zr _ _).drew.trans hb2;clear hb2;go_simp;refine hK.out _ _ hb2' (fun _=>?_);clear hK K;refine tz 3 11 ?_;refine tz 4 12 ?_;refine tz 5 13 ?_;refine tz 6 14 ?_;refine Zk 7 (fun K hK=>?_);go_simp;with_reducible refine (Qbx _ _ _ n m k c d e (b:Int) _ i3 i4).mono ?_
 rintro r w3 ⟨rfl,hb3⟩;have hb3':=Zb hb2' hb3;clear hb2' hb3;go_simp;refine hK.out _ _ hb3' (fun _=>?_);clear hK K;refine tz 8 16 ?_;refine tz 9 17 ?_;refine tz 10 18 ?_;refine tz 11 19 ?_;refine tz 12 20 ?_;refine tz 13 21 ?_;refine tz 14 22 ?_;refine tz 15 23 ?_;refine tz 16 24 ?_;refine tz 17 25 ?_;refine tz 18 26 ?_;refine tz 19 27 ?_;refine tz 20 28 ?_;refine tz 21 29 ?_;refine tz 22 30 ?_;refine tz 23 31 ?_;refine tz 24 32 ?_;refine Zd ?_
 by_cases hxy:(v:Int)=y1
 rotate_left
 · have e1:((v:Int) != y1)=true:=by simp [hxy]
   have HE:=Zh (HMM.out hxy);clear hxy
   go_wp2_with fail
   go_ret
   rw [HE.out];exact ⟨rfl,Zb hb1 hb3'⟩
 have e1:((v:Int) != y1)=false:=by simp [hxy]
 subst hxy;have HSXO:=HSX;have hc:=HSX.out w3 hb3'
 go_split_ands
 clear HSX;have HSX:=HSXO;clear HSXO
 go_wp2_with fail
 refine wp_region_held_drew (S:=fun V=>Below w1.heap.size w1 V) (by kernel_rfl) hb3'.drew (fun _=>?_);refine tz 0 39 ?_;refine tz 1 40 ?_;refine tz 2 41 ?_;refine tz 3 42 ?_;refine tz 4 43 ?_;refine tz 5 44 ?_;refine tz 6 45 ?_;refine tz 7 46 ?_;refine tz 8 47 ?_;refine tz 9 48 ?_;refine tz 10 49 ?_;refine tz 11 50 ?_;refine tz 13 52 ?_;refine tz 15 54 ?_;refine tz 16 55 ?_;refine tz 18 57 ?_;refine Zk 12 (fun K hK=>?_);go_simp;with_reducible refine (HIN.out _ (Zb hb1 hb3'.drew)).mono ?_
 rintro r w4 ⟨A4,n4,c4,rfl,h4,hb4⟩;have hb4':Below w1.heap.size w1 w4:=Zb hb3'.drew hb4;have H4:=Zh h4;have hn4l:n4≤1000000000:=by have:=HIL.out;have:=h4.1;omega
 clear h4 hb4;go_simp;refine hK.out _ _ hb4' (fun _=>?_);clear hK K;refine Zk 14 (fun K hK=>?_);go_simp;with_reducible refine (Qei A4 n4 c4 _ (a:Int) w4 H4.out hn4l).mono ?_
 rintro r w' ⟨rfl,rfl⟩;rw [HPI.out];go_simp;refine hK.out _ _ hb4' (fun _=>?_);clear hK K;refine Zk 17 (fun K hK=>?_);go_simp;with_reducible refine (HOU.out _ (Zb hb1 hb4')).mono ?_
 rintro r w5 ⟨A5,n5,c5,rfl,h5,hb5⟩;have hb5':Below w1.heap.size w1 w5:=Zb hb4' hb5;have H5:=Zh h5;have hn5l:n5≤1000000000:=by have:=HOL.out;have:=h5.1;omega
 clear h5 hb5;go_simp;refine hK.out _ _ hb5' (fun _=>?_);clear hK K;refine Zk 19 (fun K hK=>?_);go_simp;with_reducible refine (Qei A5 n5 c5 _ (b:Int) w5 H5.out hn5l).mono ?_
 rintro r w' ⟨rfl,rfl⟩;rw [HPQ.out trivial];go_simp;refine hK.out _ _ hb5' (fun _=>?_);clear hK K;refine Zk 20 (fun K hK=>?_);go_simp;with_reducible refine (HTA.out _ (Zb hb1 hb5') trivial).mono ?_
 rintro r w6 ⟨z,hz,rfl,hb6⟩;have hb6':Below w1.heap.size w1 w6:=Zb hb5' hb6;have HZ:=Zh (HTN.out z trivial hz);clear hz hb6;go_simp;refine hK.out _ _ hb6' (fun _=>?_);clear hK K;refine tz 21 6 ?_;refine Zd ?_
 go_wp2_with fail
 go_ret
 rw [HZ.out];exact ⟨rfl,Zb hb1 hb6'⟩
end Go.Proofs.YtdheeddnkdhfeaaGreatDoor
