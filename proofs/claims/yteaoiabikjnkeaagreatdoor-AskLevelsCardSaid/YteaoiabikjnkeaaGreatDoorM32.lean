/- Parts of the proof: AsY, AsI. -/
import Derived.Test.YteaoiabikjnkeaaGreatDoorM1
import Derived.Test.YteaoiabikjnkeaaGreatDoorM4
import Derived.Test.YteaoiabikjnkeaaGreatDoorM7
import Derived.Test.YteaoiabikjnkeaaGreatDoorM16
import Derived.Test.YteaoiabikjnkeaaGreatDoorM24
import Derived.Test.YteaoiabikjnkeaaGreatDoorM25
import Derived.Test.YteaoiabikjnkeaaGreatDoorM27
import Derived.Test.YteaoiabikjnkeaaGreatDoorM31
namespace Go.Proofs.YteaoiabikjnkeaaGreatDoor
open Go.RowKit
theorem Qoo {N:Qao} {ls:List (List Int)} (hok:Qau N) (hP:Qay N.vs.length ls) {j a b:Nat} {l:List Int} {y z:Tri} (hl:ls[j]?=some l) (hy:N.ar[a]?=some y) (hz:N.ar[b]?=some z)
 (h1:Qab l y.1≠Qab l y.2.1) (h2:Qab l z.1=Qab l y.2.1) (h3:Qab l z.2.1≠Qab l y.2.1) :
 ∃ (c p q k:Nat) (x:Qan),Qab l y.2.1=(c:Int)∧(Qaf N.ar l)[c]?=some x∧plI x.1 (a:Int)=(p:Int)∧plI x.2 (b:Int)=(q:Int)∧x.1[p]?=some (a:Int)∧x.2[q]?=some (b:Int)∧Qfk N ls k j l c x p q a b:=by
 obtain ⟨u,v,_,e3,_,hv⟩:=Qgc hok hy;obtain ⟨c,hc,hcm,_⟩:=Qdl (hP.lvl l (Zm hl)) hv;rw [←e3] at hc;obtain ⟨x,hx⟩:∃ x,(Qaf N.ar l)[c]?=some x:=⟨_,Qcl hcm⟩;rw [hc] at h1 h2 h3;obtain ⟨p,hp,hp2⟩:=Qfx ((Qdf hx).2 ⟨y,hy,h1,hc⟩);obtain ⟨q,hq,hq2⟩:=Qfx ((Qby hx).2 ⟨z,hz,h2,h3⟩);exact ⟨c,p,q,_,x,hc,hx,hp,hq,hp2,hq2,hl,hx,hp2,hq2,rfl⟩
theorem leap_ent {N:Qao} {ls:List (List Int)} {EL:List Ent} (hE:EntP N ls EL) (hEl:EL.length=Qbx (Qae N.ar ls)) {k j c p q a b:Nat} {l:List Int} {x:Qan} (hI:Qfk N ls k j l c x p q a b) :
 EL[k]?=some (j,c,p,q)∧∀ i f,i<k→EL[i]?=some f→f≠(j,c,p,q):=by
 have hk:=hI.lt.2.2.1;rw [←hEl] at hk;obtain ⟨e,he⟩:∃ e,EL[k]?=some e:=⟨_,Zg hk⟩;obtain ⟨l',x',s',t',hI'⟩:=hE _ e he;obtain ⟨g1,_,g3,_,g5,g6,_,_⟩:=hI.inj hI';obtain ⟨e1,e2,e4,e5⟩:=e;simp only at g1 g3 g5 g6;subst g1;subst g3;subst g5;subst g6;refine ⟨he,fun i f hi hf hfe=>?_⟩;subst hfe;obtain ⟨l'',x'',s'',t'',hI''⟩:=hE _ _ hf;have h5:=hI''.hl;simp only at h5;rw [hI.hl] at h5
 cases h5
 have h6:=hI''.hx;simp only at h6;rw [hI.hx] at h6
 cases h6
 have h7:=hI''.hk;have h8:=hI.hk;simp only at h7;omega
theorem Qsk {N:Qao} {ls:List (List Int)} {cl:List Int} (hA:Qdo N ls cl) {j a b c k p q:Nat} {l:List Int} {x:Qan} {y z:Tri} (hl:ls[j]?=some l) (hy:N.ar[a]?=some y) (hz:N.ar[b]?=some z)
 (h1:Qab l y.1≠Qab l y.2.1) (h2:Qab l z.1=Qab l y.2.1) (h3:Qab l z.2.1≠Qab l y.2.1) (hc:Qab l y.2.1=(c:Int)) (hI:Qfk N ls k j l c x p q a b):∃ v,cl[k]?=some v∧Qob N ls ((j:Int)+1) (a:Int) (b:Int) (Qdw v z.2.2):=by
 obtain ⟨v,hv,hE⟩:=hA.at_ hI;exact ⟨v,hv,.inr (.inl ⟨a,b,j,l,y,z,v,rfl,rfl,rfl,hl,hy,hz,h1,h2,h3,by rw [hc]; exact hE,rfl⟩)⟩
theorem Qgn {N:Qao} {ls:List (List Int)} {a b:Nat} {y z:Tri} (hy:N.ar[a]?=some y) (hz:N.ar[b]?=some z):Qob N ls 0 (a:Int) (b:Int) (Qdw (Qat N a b) z.2.2):=.inl ⟨a,b,y,z,rfl,rfl,hy,hz,rfl,rfl⟩
theorem Qjx {N:Qao} {ls:List (List Int)} {lv f t:Int} (h:∀ (a b:Nat),f=(a:Int)→t=(b:Int)→a<N.ar.length→b<N.ar.length→lv≠0∧¬LeapQ N ls lv a b):Qob N ls lv f t 1152921504606846976:=.inr (.inr ⟨rfl,h⟩)
/-! law21.known's chain. -/
theorem Qgz (a:Nat)(h:a≤4):toV Qaq a=(a:Int)+1:=by
 rcases (by omega:a=0∨a=1∨a=2∨a=3∨a=4) with rfl | rfl | rfl | rfl | rfl <;> rfl
theorem Qqh:frV Qaq 4=4:=rfl
theorem Qks {v:Int}{av:List Int}{x:Int}(hx:x∈av) (h:Qab [0,0,1,1,2,2] v=Qab [0,0,1,1,2,2] x):Qdd Qbc v av=0:=by
 cases h1:Qdd Qbc v av with
 | zero=>rfl
 | succ j =>
  have hj:=Qhh (ls:=Qbc) (v:=v) (av:=av) 1;have h2:Qjb Qbc v av 1=j+1:=h1;obtain rfl:j=0:=by omega
  obtain ⟨l,hl,h3⟩:=Qce h1
  cases hl
  exact absurd h (h3 x hx)
theorem ch_up {v:Int}{av:List Int} (h:∀ x∈av,Qab [0,0,1,1,2,2] v≠Qab [0,0,1,1,2,2] x):Qdd Qbc v av=1:=by
 have h1:=Qem (ls:=Qbc) (v:=v) (av:=av) (j:=0) ⟨_,rfl,h⟩;have:=Qhh (ls:=Qbc) (v:=v) (av:=av) 1;unfold Qdd at h1 ⊢;exact Nat.le_antisymm this h1
theorem ch_hst {a b:Nat}{d:Int} (h:HSt Qaq Qbc [1,4] a b d):(a=0∧b=1∧d=11)∨(a=1∧b=3∧d=22)∨(a=3∧b=4∧d=11):=by
 rcases h with ⟨h0,h⟩ | ⟨j,l,y,z,v,hj,hl,hy,hz,g1,g2,g3,g4,g5,g6,rfl⟩
 · obtain ⟨h1,rfl,rfl⟩:=Qmu.1 h
   rw [Qgz a (by omega)] at h0
   rcases (by omega:a=0∨a=1∨a=2∨a=3) with rfl | rfl | rfl | rfl
   · exact .inl ⟨rfl,rfl,rfl⟩
   · rw [ch_up (v:=((1:Nat):Int)+1) (by decide)] at h0; cases h0
   · rw [ch_up (v:=((2:Nat):Int)+1) (by decide)] at h0; cases h0
   · exact .inr (.inr ⟨rfl,rfl,rfl⟩)
 · have hj1:=Qhh (ls:=Qbc) (v:=toV Qaq a) (av:=[1,4]) 1
   have h2:Qjb Qbc (toV Qaq a) [1,4] 1=j+1:=hj;obtain rfl:j=0:=by omega
   cases hl
   obtain ⟨k1,rfl⟩:=Qwl hy;obtain ⟨k2,rfl⟩:=Qwl hz;simp only at g1 g2 g3 g4 g5
   rcases (by omega:a=0∨a=1∨a=2∨a=3∨a=4) with rfl | rfl | rfl | rfl | rfl
   · exact absurd (by decide) g1
   · rcases (by omega:b=0∨b=1∨b=2∨b=3∨b=4) with rfl | rfl | rfl | rfl | rfl
     · exact absurd g2 (by decide)
     · exact absurd g2 (by decide)
     · exact absurd (by decide) g3
     · obtain rfl:=Lst.uniq g5 Qvs
       exact .inr (.inl ⟨rfl,rfl,rfl⟩)
     · exact absurd g2 (by decide)
   · exact absurd (by decide) g1
   · rw [Qgz 3 (by omega),Qks (v:=((3:Nat):Int)+1) (x:=4) (by decide) (by decide)] at hj
     cases hj
   · exact absurd (by decide) g1
theorem ch_hop {q:Nat}{c:Int} {hs:List (Nat×Nat)} (h:HopP Qaq Qbc [1,4] 0 q c hs):(q=0∧hs=[])∨(q=1∧hs=[(0,1)])∨(q=3∧hs=[(0,1),(1,3)])∨(q=4∧hs=[(0,1),(1,3),(3,4)]):=by
 induction h with
 | start=>exact .inl ⟨rfl,rfl⟩
 | step _ h2 ih =>
  rcases ch_hst h2 with ⟨rfl,rfl,rfl⟩ | ⟨rfl,rfl,rfl⟩ | ⟨rfl,rfl,rfl⟩
  · rcases ih with ⟨_,rfl⟩ | ⟨h,_⟩ | ⟨h,_⟩ | ⟨h,_⟩
    · exact .inr (.inl ⟨rfl,rfl⟩)
    · cases h
    · cases h
    · cases h
  · rcases ih with ⟨h,_⟩ | ⟨_,rfl⟩ | ⟨h,_⟩ | ⟨h,_⟩
    · cases h
    · exact .inr (.inr (.inl ⟨rfl,rfl⟩))
    · cases h
    · cases h
  · rcases ih with ⟨h,_⟩ | ⟨h,_⟩ | ⟨_,rfl⟩ | ⟨h,_⟩
    · cases h
    · cases h
    · exact .inr (.inr (.inr ⟨rfl,rfl⟩))
    · cases h
theorem ch_av:[toV Qaq 0,frV Qaq 4]=[1,4]:=rfl
theorem ch_run {v:Int} {hs:List (Nat×Nat)} (h:RunP Qaq Qbc [toV Qaq 0,frV Qaq 4] 0 4 v hs):v=44∧hs.map (Qsn Qaq Qbc [toV Qaq 0,frV Qaq 4])=[(0,0,1),(1,1,3),(0,3,4)]:=by
 have hv:v=44:=by
  rcases h with ⟨h1,_⟩ | ⟨_,h2,_⟩
  · exact absurd h1 (by decide)
  · exact (Qmj Qcu Qci (Qkc.ex Qcu Qci) ⟨_,rfl⟩ (by simp) (by simp) h2).uniq Qwv
 subst hv;refine ⟨rfl,?_⟩
 rcases h with ⟨_,h2,_⟩ | ⟨_,_,⟨h3,_⟩ | h3⟩
 · exact absurd h2 (by decide)
 · exact absurd h3 (by decide)
 · rw [ch_av] at h3 ⊢
   rcases ch_hop h3 with ⟨h,_⟩ | ⟨h,_⟩ | ⟨h,_⟩ | ⟨_,rfl⟩
   · cases h
   · cases h
   · cases h
   · simp only [List.map_cons,List.map_nil,Qsn]
     rw [Qgz 0 (by omega),Qgz 1 (by omega),Qgz 3 (by omega),Qks (v:=((0:Nat):Int)+1) (x:=1) (by decide) (by decide),ch_up (v:=((1:Nat):Int)+1) (by decide),Qks (v:=((3:Nat):Int)+1) (x:=4) (by decide) (by decide)]
theorem ch_run0 {v:Int}(h:Qnl Qaq 4 0 v):v=1152921504606846976:=h.uniq (.inr ⟨by decide,ch_none⟩)
theorem Qwp {a:Nat}(h:a≤3){v:Int} (hv:Qob Qaq Qbc 0 (a:Int) ((a:Int)+1) v):v=11:=by
 have h1:Qob Qaq Qbc 0 (a:Int) (((a+1:Nat)):Int) 11:=by
  rcases (by omega:a=0∨a=1∨a=2∨a=3) with rfl | rfl | rfl | rfl
  · exact Qgn (a:=0) (b:=1) (y:=(0,1,10)) (z:=(1,2,10)) rfl rfl
  · exact Qgn (a:=1) (b:=2) (y:=(1,2,10)) (z:=(2,3,10)) rfl rfl
  · exact Qgn (a:=2) (b:=3) (y:=(2,3,10)) (z:=(3,4,10)) rfl rfl
  · exact Qgn (a:=3) (b:=4) (y:=(3,4,10)) (z:=(4,5,10)) rfl rfl
 exact hv.uniq h1
theorem Qxn {v:Int}(hv:Qob Qaq Qbc 1 1 3 v):v=22 :=
 hv.uniq (.inr (.inl ⟨1,3,0,[0,0,1,1,2,2],(1,2,10),(3,4,10),12,rfl,rfl,rfl,rfl,rfl,rfl,by decide,by decide,by decide,Qvs,by decide⟩))
theorem ch_prc2 {v:Int}(hv:Qob Qaq Qbc 1 1 2 v):v=1152921504606846976:=by
 refine hv.uniq (Qjx (fun a b ha hb _ _=>⟨by decide,?_⟩));obtain rfl:a=1:=by omega
 obtain rfl:b=2:=by omega
 rintro ⟨j,l,y,z,hj,hl,hy,hz,_,_,g3⟩;obtain rfl:j=0:=by omega
 cases hl
 cases hy
 cases hz
 exact absurd (by decide) g3
attribute [local go_sem ↓] Go.wp_at_zero Go.wp_at_succ
def Qee (N:Qao) (ls:List (List Int)) (lv a:Int):Option (Int×Int) :=
 if 1≤lv∧lv≤(ls.length:Int)∧0≤a∧a<(N.ar.length:Int) then
  (if Qab (ls.getD (lv-1).toNat []) (N.ar.getD a.toNat (0,0,0)).1=Qab (ls.getD (lv-1).toNat []) (N.ar.getD a.toNat (0,0,0)).2.1 then none
   else some (Qab (ls.getD (lv-1).toNat []) (N.ar.getD a.toNat (0,0,0)).1,Qab (ls.getD (lv-1).toNat []) (N.ar.getD a.toNat (0,0,0)).2.1)) else none
def enF (N:Qao) (ls:List (List Int)) (lv a:Int):Int:=match Qee N ls lv a with | none=>-1 | some p=>p.2
def leF (N:Qao) (ls:List (List Int)) (lv a:Int):Int:=match Qee N ls lv a with | none=>-1 | some p=>p.1
section
variable {N:Qao} {ls:List (List Int)}
theorem Qea {j a:Nat}{l:List Int}{y:Tri} (hl:ls[j]?=some l) (hy:N.ar[a]?=some y):Qee N ls ((j:Int)+1) (a:Int)=if Qab l y.1=Qab l y.2.1 then none else some (Qab l y.1,Qab l y.2.1):=by
 have h1:=(Zs hl).1;have h2:=(Zs hy).1;unfold Qee;rw [if_pos ⟨by omega,by omega,by omega,by omega⟩];have e1:ls.getD ((j:Int)+1-1).toNat []=l:=by rw [show ((j:Int)+1-1).toNat=j by omega,List.getD_eq_getElem?_getD,hl]; rfl
 have e2:N.ar.getD ((a:Int)).toNat (0,0,0)=y:=by rw [Int.toNat_natCast,List.getD_eq_getElem?_getD,hy]; rfl
 rw [e1,e2]
theorem Qgh {lv a:Int} (h:¬(1≤lv∧lv≤(ls.length:Int)∧0≤a∧a<(N.ar.length:Int))):Qee N ls lv a=none:=by
 unfold Qee;rw [if_neg h]
theorem Qfo {lv a:Int}{p:Int×Int}(h:Qee N ls lv a=some p):∃ (j b:Nat) (l:List Int) (y:Tri),lv=(j:Int)+1∧a=(b:Int)∧ls[j]?=some l∧N.ar[b]?=some y∧Qab l y.1≠Qab l y.2.1∧p=(Qab l y.1,Qab l y.2.1):=by
 by_cases h1:1≤lv∧lv≤(ls.length:Int)∧0≤a∧a<(N.ar.length:Int)
 · obtain ⟨j,rfl⟩:∃ j:Nat,lv=(j:Int)+1:=⟨(lv-1).toNat,by omega⟩
   obtain ⟨b,rfl⟩:∃ b:Nat,a=(b:Int):=⟨a.toNat,by omega⟩;obtain ⟨l,hl⟩:∃ l,ls[j]?=some l:=⟨_,Zg (by omega)⟩;obtain ⟨y,hy⟩:∃ y,N.ar[b]?=some y:=⟨_,Zg (by omega)⟩;rw [Qea hl hy] at h
   split at h
   · cases h
   · rename_i hne
     exact ⟨j,b,l,y,rfl,rfl,hl,hy,hne,(Option.some.inj h).symm⟩
 · rw [Qgh h1] at h
   cases h
theorem Qyw {lv f t:Int}(h0:0≤enF N ls lv f)(h1:leF N ls lv t=enF N ls lv f):∃ (a b j:Nat) (l:List Int) (y z:Tri),f=(a:Int)∧t=(b:Int)∧lv=(j:Int)+1∧ls[j]?=some l∧N.ar[a]?=some y∧N.ar[b]?=some z∧Qab l y.1≠Qab l y.2.1∧Qab l z.1=Qab l y.2.1∧Qab l z.2.1≠Qab l y.2.1∧enF N ls lv f=Qab l y.2.1:=by
 cases hc:Qee N ls lv f with
 | none=>unfold enF at h0; rw [hc] at h0; simp at h0
 | some p =>
  obtain ⟨j,a,l,y,rfl,rfl,hl,hy,hne,rfl⟩:=Qfo hc;have e1:enF N ls ((j:Int)+1) (a:Int)=Qab l y.2.1:=by unfold enF; rw [hc]
  cases hd:Qee N ls ((j:Int)+1) t with
  | none=>rw [e1] at h1 h0; unfold leF at h1; rw [hd] at h1; simp only at h1; omega
  | some q =>
   obtain ⟨j',b,l',z,e2,rfl,hl',hz,hne',rfl⟩:=Qfo hd;obtain rfl:j=j':=by omega
   rw [hl] at hl'
   cases hl'
   have e3:leF N ls ((j:Int)+1) (b:Int)=Qab l z.1:=by unfold leF; rw [hd]
   rw [e1,e3] at h1;exact ⟨a,b,j,l,y,z,rfl,rfl,rfl,hl,hy,hz,hne,h1,fun e=>hne' (by rw [h1,e]),e1⟩
theorem Qxv {lv f t:Int}(hok:Qau N)(hP:Qay N.vs.length ls)(h:enF N ls lv f<0∨leF N ls lv t≠enF N ls lv f)(a b:Nat) (hf:f=(a:Int)) (ht:t=(b:Int)):¬LeapQ N ls lv a b:=by
 rintro ⟨j,l,y,z,rfl,hl,hy,hz,h1,h2,h3⟩;subst hf;subst ht;have e1:enF N ls ((j:Int)+1) (a:Int)=Qab l y.2.1:=by unfold enF; rw [Qea hl hy,if_neg h1]
 have e2:leF N ls ((j:Int)+1) (b:Int)=Qab l z.1:=by unfold leF; rw [Qea hl hz,if_neg (fun e=>h3 (by rw [←e,h2]))]
 rw [e1,e2] at h;obtain ⟨u,v,_,e3,_,hv⟩:=Qgc hok hy;obtain ⟨c,hc,_⟩:=Qdl (hP.lvl l (Zm hl)) hv;rw [←e3] at hc
 rcases h with h | h
 · omega
 · exact h h2
end
theorem gFrom_no (g:Nat)(N:Qao)(a:Int)(w:World)(h:Qev w g N) (ha:¬(0≤a∧a<(N.ar.length:Int))):Calls Tryz.prog 170 #[.pointer (some ⟨g,0,none⟩),.int .i64 a] w fun e w'=>e=.returned (.int .i64 (-1))∧w=w':=by
 have HA:=Zh (Qkj g N a w h ha);clear h ha
 go_enter Tryz.func170,Tryz.ntmps170
 go_wp2_with fail
 with_reducible refine HA.out.mono ?_
 rintro e w' ⟨rfl,rfl⟩
 go_wp2
 go_ret
 exact ⟨rfl,rfl⟩
theorem gTo_no (g:Nat)(N:Qao)(a:Int)(w:World)(h:Qev w g N) (ha:¬(0≤a∧a<(N.ar.length:Int))):Calls Tryz.prog 147 #[.pointer (some ⟨g,0,none⟩),.int .i64 a] w fun e w'=>e=.returned (.int .i64 (-1))∧w=w':=by
 have HA:=Zh (Qkj g N a w h ha);clear h ha
 go_enter Tryz.func147,Tryz.ntmps147
 go_wp2_with fail
 with_reducible refine HA.out.mono ?_
 rintro e w' ⟨rfl,rfl⟩
 go_wp2
 go_ret
 exact ⟨rfl,rfl⟩
theorem Qvg (g:Nat)(N:Qao)(a:Int)(w:World)(h:Qev w g N) (ha:¬(0≤a∧a<(N.ar.length:Int))):Calls Tryz.prog 72 #[.pointer (some ⟨g,0,none⟩),.int .i64 a] w fun e w'=>e=.returned (.int .i64 1152921504606846976)∧w=w':=by
 have HA:=Zh (Qkj g N a w h ha);clear h ha
 go_enter Tryz.func72,Tryz.ntmps72
 go_wp2_with fail
 with_reducible refine HA.out.mono ?_
 rintro e w' ⟨rfl,rfl⟩
 go_wp2
 go_ret
 exact ⟨rfl,rfl⟩
theorem Qtg (g:Nat)(N:Qao)(a b:Int)(w:World)(h:Qev w g N) (ha:¬(0≤a∧a<(N.ar.length:Int))∨¬(0≤b∧b<(N.ar.length:Int))):Calls Tryz.prog 71 #[.pointer (some ⟨g,0,none⟩),.int .i64 a,.int .i64 b] w fun e w'=>e=.returned (.int .i64 1152921504606846976)∧Below w.heap.size w w':=by
 by_cases h1:0≤a∧a<(N.ar.length:Int)
 · have HA:=Zh (Qiw g N a w.drew (h.below (Zr _ _).drew) h1.1 h1.2)
   have HB:=Zh (Qkj g N b w.drew (h.below (Zr _ _).drew) (ha.resolve_left (fun h=>h h1)));clear h ha h1
   go_enter Tryz.func71,Tryz.ntmps71
   go_wp2_with fail
   refine wp_region_held_drew (S:=fun V=>V=w.drew) (by kernel_rfl) rfl (fun _=>?_);refine tz 0 8 ?_;refine tz 1 9 ?_;refine Zk 2 (fun K hK=>?_);go_simp;with_reducible refine HA.out.mono ?_
   rintro e w' ⟨rfl,rfl⟩;go_simp;refine hK.out _ _ rfl (fun _=>?_);clear hK K;refine tz 3 11 ?_;refine tz 4 12 ?_;refine tz 5 13 ?_;refine tz 6 14 ?_;refine Zk 7 (fun K hK=>?_);go_simp;with_reducible refine HB.out.mono ?_
   rintro e w' ⟨rfl,rfl⟩;go_simp;refine hK.out _ _ rfl (fun _=>?_);clear hK K;refine tz 8 16 ?_;refine tz 9 17 ?_;refine tz 10 18 ?_;refine tw 11 19 ?_;refine tw 12 20 ?_;refine tw 13 21 ?_;refine tw 14 22 ?_;refine tw 15 23 ?_;refine tw 16 24 ?_;refine tw 17 25 ?_;refine tw 18 26 ?_;refine tw 19 27 ?_;refine tw 20 28 ?_;refine tw 21 29 ?_;refine tw 22 30 ?_;refine tw 23 31 ?_;refine tw 24 32 ?_;refine tw 25 33 ?_;refine tw 26 34 ?_;refine tw 27 35 ?_;refine tw 28 36 ?_;refine tw 29 37 ?_;refine tz 30 38 ?_;refine wpAnyH_done (by kernel_rfl) ?_ _
   go_wp2_with fail
   go_ret
   exact ⟨rfl,Qah⟩
 · have HA:=Zh (Qkj g N a w.drew (h.below (Zr _ _).drew) h1)
   clear h ha h1
   go_enter Tryz.func71,Tryz.ntmps71
   go_wp2_with fail
   refine wp_region_held_drew (S:=fun V=>V=w.drew) (by kernel_rfl) rfl (fun _=>?_);refine tz 0 8 ?_;refine tz 1 9 ?_;refine Zk 2 (fun K hK=>?_);go_simp;with_reducible refine HA.out.mono ?_
   rintro e w' ⟨rfl,rfl⟩;go_simp;refine hK.out _ _ rfl (fun _=>?_);clear hK K;refine tz 3 11 ?_;refine tz 4 12 ?_;refine tw 5 13 ?_;refine tw 6 14 ?_;refine tw 7 15 ?_;refine tw 8 16 ?_;refine tz 9 17 ?_;refine tz 10 18 ?_;refine tw 11 19 ?_;refine tw 12 20 ?_;refine tw 13 21 ?_;refine tw 14 22 ?_;refine tw 15 23 ?_;refine tw 16 24 ?_;refine tw 17 25 ?_;refine tw 18 26 ?_;refine tw 19 27 ?_;refine tw 20 28 ?_;refine tw 21 29 ?_;refine tw 22 30 ?_;refine tw 23 31 ?_;refine tw 24 32 ?_;refine tw 25 33 ?_;refine tw 26 34 ?_;refine tw 27 35 ?_;refine tw 28 36 ?_;refine tw 29 37 ?_;refine tz 30 38 ?_;refine wpAnyH_done (by kernel_rfl) ?_ _
   go_wp2_with fail
   go_ret
   exact ⟨rfl,Qah⟩
def Qqn (N:Qao) (ls:List (List Int)) (lv a:Int):Ending:=.returned (.tuple #[.int .i64 (leF N ls lv a),.int .i64 (enF N ls lv a)])
set_option maxHeartbeats 2000000 in
theorem Qod (w:World)(g:Nat)(N:Qao) (ls:List (List Int)) (Q:Option Addr) (L cq:Nat) (lv a:Int) (hg:Qev w g N) (hq:RdT w Q L ls) (hok:Qau N) (hP:Qay N.vs.length ls) :
 Calls Tryz.prog 136 #[.pointer (some ⟨g,0,none⟩),.agg #[.slice Q L cq],.int .i64 lv,.int .i64 a] w fun e w'=>e=Qqn N ls lv a∧Below w.heap.size w w':=by
 have hL:=hq.1;have HNO:=Zh (fun (h:¬(1≤lv∧lv≤(ls.length:Int)∧0≤a∧a<(N.ar.length:Int)))=>(show (Ending.returned (.tuple #[.int .i64 (-1),.int .i64 (-1)]):Ending)=Qqn N ls lv a by unfold Qqn leF enF; rw [Qgh h]))
 by_cases i1:lv<1
 · have HE:=Zh (HNO.out (by omega))
   clear hg hq hok hP hL HNO
   go_enter Tryz.func136,Tryz.ntmps136
   go_wp2_with fail
   refine bodyPost_ret (v:=.tuple #[.int .i64 (-1),.int .i64 (-1)]) (by simp [results,Tryz.results136,go_sem]) rfl ?_;exact ⟨HE.out,Qah⟩
 by_cases i2:(L:Int)<lv
 · have HE:=Zh (HNO.out (by omega))
   clear hg hq hok hP hL HNO
   go_enter Tryz.func136,Tryz.ntmps136
   go_wp2_with fail
   refine bodyPost_ret (v:=.tuple #[.int .i64 (-1),.int .i64 (-1)]) (by simp [results,Tryz.results136,go_sem]) rfl ?_;exact ⟨HE.out,Qah⟩
 obtain ⟨j,rfl⟩:∃ j:Nat,lv=(j:Int)+1:=⟨(lv-1).toNat,by omega⟩;obtain ⟨qb,qo,A',n',c',l,rfl,hl,q1,q2,q3,q4⟩:=hq.at_ (i:=j) (by omega);have hln:=(hP.lvl l (Zm hl)).len;have hn':n'=N.vs.length:=by rw [←q2.1]; exact hln
 have hL6:=hP.l6;have i3:(j:Int)+1-1=(j:Int):=by omega
 have i4:(0:Int)≤(j:Int):=by omega
 have i5:(j:Int)<(L:Int):=by omega
 have wj:IntKind.i64.wrap (j:Int)=(j:Int):=IntWalk.i64_in _ (by omega);have hb1:Below w.heap.size w (w.alloc (.cells #[.slice (some ⟨qb,qo,none⟩) L cq] 87)):=Qah
 by_cases ha:0≤a∧a<(N.ar.length:Int)
 · obtain ⟨b,rfl⟩:∃ b:Nat,a=(b:Int):=⟨a.toNat,by omega⟩
   obtain ⟨y,hy⟩:∃ y,N.ar[b]?=some y:=⟨_,Zg (by omega)⟩;obtain ⟨u,v,e1,e2,hu,hv⟩:=Qgc hok hy;have HF:=Zh (Qig g b N y _ (hg.below hb1) hy);have HT:=Zh (Qib g b N y _ (hg.below hb1) hy);rw [e1] at HF;rw [e2] at HT;obtain ⟨rb,ro,zu,rfl,hzu,cu⟩:=q2.at_ (i:=u) (by omega);obtain ⟨_,_,zv,er,hzv,cv⟩:=q2.at_ (i:=v) (by omega)
   cases er
   have HE:=Zh (show Qqn N ls ((j:Int)+1) (b:Int)=if zu=zv then .returned (.tuple #[.int .i64 (-1),.int .i64 (-1)]) else .returned (.tuple #[.int .i64 zu,.int .i64 zv]) from by
    unfold Qqn leF enF;rw [Qea hl hy,e1,e2,Qap hzu,Qap hzv]
    by_cases e:zu=zv
    · rw [if_pos e,if_pos e]
    · rw [if_neg e,if_neg e])
   have k1:=Zc hb1 (Zn _) q1;have k2:=Zc hb1 (Zn _) cu;have k3:=Zc hb1 (Zn _) cv;have p0:decide ((u:Int)<0)=false:=by simp
   have p1:decide ((v:Int)<0)=false:=by simp
   have p2:decide (n'≤u)=false:=by simp; omega
   have p3:decide (n'≤v)=false:=by simp; omega
   have p4:(0:Int)≤(u:Int):=by omega
   have p5:(0:Int)≤(v:Int):=by omega
   have p6:(u:Int)<(n':Int):=by omega
   have p7:(v:Int)<(n':Int):=by omega
   have HSX:=Zh (show ∀ V,V=(w.alloc (.cells #[.slice (some ⟨qb,qo,none⟩) L cq] 87)).drew→V.cell? ⟨rb,ro+u,none⟩=some (.int .i64 zu)∧V.cell? ⟨rb,ro+v,none⟩=some (.int .i64 zv) from fun V e=>by subst e; exact ⟨k2,k3⟩)
   clear hg hq hok hP hl hy hu hv hzu hzv e1 e2 q1 q2 cu cv hb1 ha hln hn' HNO
   go_enter Tryz.func136,Tryz.ntmps136
   go_wp2_with fail
   with_reducible refine HF.out.mono ?_
   rintro e w' ⟨rfl,rfl⟩
   go_wp2_with fail
   with_reducible refine HT.out.mono ?_
   rintro e w' ⟨rfl,rfl⟩
   go_wp2_with fail
   refine wp_region_held_drew (S:=fun V=>V=(w.alloc (.cells #[.slice (some ⟨qb,qo,none⟩) L cq] 87)).drew) (by kernel_rfl) rfl (fun _=>?_)
   by_cases e:zu=zv
   · have HE:=Zh ((HE.out.trans (if_pos e)).symm)
     have e4:(zu == zv)=true:=by simp [e]
     refine tz 0 34 ?_;refine tz 1 35 ?_;refine tz 2 36 ?_;refine tz 3 37 ?_;refine tz 4 38 ?_;refine tz 5 39 ?_;refine tz 6 40 ?_;refine tz 7 41 ?_;refine tz 8 42 ?_;refine tz 9 43 ?_;refine tz 10 44 ?_;refine tz 11 45 ?_;refine tz 12 46 ?_;refine tz 13 47 ?_;refine tz 14 48 ?_;refine tz 15 49 ?_;refine tz 16 50 ?_;refine tz 17 51 ?_;refine tz 18 52 ?_;refine tz 19 53 ?_;refine tz 20 54 ?_;refine tz 21 55 ?_;refine tz 22 56 ?_;refine tz 23 57 ?_;refine tz 24 58 ?_;refine tz 25 59 ?_;refine tz 26 60 ?_;refine tz 27 61 ?_;refine tz 28 62 ?_;refine wpAnyH_done (by kernel_rfl) ?_ _
     go_wp2_with fail
     refine bodyPost_ret (v:=.tuple #[.int .i64 (-1),.int .i64 (-1)]) (by simp [results,Tryz.results136,go_sem]) rfl ?_;exact ⟨HE.out,Qah⟩
   · have HE:=Zh ((HE.out.trans (if_neg e)).symm)
     have e4:(zu == zv)=false:=by simp [e]
     refine tz 0 34 ?_;refine tz 1 35 ?_;refine tz 2 36 ?_;refine tz 3 37 ?_;refine tz 4 38 ?_;refine tz 5 39 ?_;refine tz 6 40 ?_;refine tz 7 41 ?_;refine tz 8 42 ?_;refine tz 9 43 ?_;refine tz 10 44 ?_;refine tz 11 45 ?_;refine tz 12 46 ?_;refine tz 13 47 ?_;refine tz 14 48 ?_;refine tz 15 49 ?_;refine tz 16 50 ?_;refine tz 17 51 ?_;refine tz 18 52 ?_;refine tz 19 53 ?_;refine tz 20 54 ?_;refine tz 21 55 ?_;refine tz 22 56 ?_;refine tz 23 57 ?_;refine tz 24 58 ?_;refine tz 25 59 ?_;refine tz 26 60 ?_;refine tz 27 61 ?_;refine tz 28 62 ?_;refine wpAnyH_done (by kernel_rfl) ?_ _;clear HSX;have HSX:=Zh (show ∀ V,V=(w.alloc (.cells #[.slice (some ⟨qb,qo,none⟩) L cq] 87)).drew.drew→V.cell? ⟨rb,ro+u,none⟩=some (.int .i64 zu)∧V.cell? ⟨rb,ro+v,none⟩=some (.int .i64 zv) from fun V e=>by subst e; exact ⟨k2,k3⟩)
     go_wp2_with fail
     refine wp_region_held_drew (S:=fun V=>V=(w.alloc (.cells #[.slice (some ⟨qb,qo,none⟩) L cq] 87)).drew.drew) (by kernel_rfl) rfl (fun _=>?_);refine tz 0 63 ?_;refine tz 1 64 ?_;refine tz 2 65 ?_;refine tz 3 66 ?_;refine tz 4 67 ?_;refine tz 5 68 ?_;refine tz 6 69 ?_;refine tz 7 70 ?_;refine tz 8 8 ?_;refine tz 9 9 ?_;refine wpAnyH_done (by kernel_rfl) ?_ _
     go_wp2_with fail
     refine bodyPost_ret (v:=.tuple #[.int .i64 zu,.int .i64 zv]) (by simp [results,Tryz.results136,go_sem]) rfl ?_;exact ⟨HE.out,Qah⟩
 · have HF:=Zh (gFrom_no g N a _ (hg.below hb1) ha)
   have HT:=Zh (gTo_no g N a _ (hg.below hb1) ha);have HE:=Zh (HNO.out (by omega));have k1:=Zc hb1 (Zn _) q1;clear hg hq hok hP hl q1 q2 hb1 ha hln hn' HNO
   go_enter Tryz.func136,Tryz.ntmps136
   go_wp2_with fail
   with_reducible refine HF.out.mono ?_
   rintro e w' ⟨rfl,rfl⟩
   go_wp2_with fail
   with_reducible refine HT.out.mono ?_
   rintro e w' ⟨rfl,rfl⟩
   go_wp2_with fail
   refine wp_region_held_drew (S:=fun V=>V=(w.alloc (.cells #[.slice (some ⟨qb,qo,none⟩) L cq] 87)).drew) (by kernel_rfl) rfl (fun _=>?_);refine tz 0 34 ?_;refine tz 1 35 ?_;refine tz 2 36 ?_;refine tw 3 37 ?_;refine tw 4 38 ?_;refine tz 5 39 ?_;refine tz 6 40 ?_;refine tw 7 41 ?_;refine tw 8 42 ?_;refine tw 9 43 ?_;refine tw 10 44 ?_;refine tz 11 45 ?_;refine tz 12 46 ?_;refine tw 13 47 ?_;refine tw 14 48 ?_;refine tw 15 49 ?_;refine tw 16 50 ?_;refine tz 17 51 ?_;refine tz 18 52 ?_;refine tw 19 53 ?_;refine tw 20 54 ?_;refine tw 21 55 ?_;refine tw 22 56 ?_;refine tw 23 57 ?_;refine tw 24 58 ?_;refine tw 25 59 ?_;refine tw 26 60 ?_;refine tw 27 61 ?_;refine tz 28 62 ?_;refine wpAnyH_done (by kernel_rfl) ?_ _
   go_wp2_with fail
   refine bodyPost_ret (v:=.tuple #[.int .i64 (-1),.int .i64 (-1)]) (by simp [results,Tryz.results136,go_sem]) rfl ?_;exact ⟨HE.out,Qah⟩
theorem Qqe (w:World)(g:Nat)(N:Qao) (ls:List (List Int)) (Q:Option Addr) (L cq:Nat) (lv a:Int) (hg:Qev w g N) (hq:RdT w Q L ls) (hok:Qau N) (hP:Qay N.vs.length ls) :
 Calls Tryz.prog 74 #[.pointer (some ⟨g,0,none⟩),.agg #[.slice Q L cq],.int .i64 lv,.int .i64 a] w fun e w'=>e=.returned (.int .i64 (enF N ls lv a))∧Below w.heap.size w w':=by
 have hb1:Below w.heap.size w (w.alloc (.cells #[.slice Q L cq] 87)):=Qah;have HE:=Zh (Qod _ g N ls Q L cq lv a (hg.below hb1) (hq.below hb1) hok hP);clear hg hq hok hP
 go_enter Tryz.func74,Tryz.ntmps74
 go_wp2_with fail
 with_reducible refine HE.out.mono ?_
 unfold Qqn;rintro e w' ⟨rfl,hb⟩;have HB:=Zh (Zb hb1 hb);clear hb hb1
 go_wp2_with fail
 go_ret
 exact ⟨rfl,HB.out⟩
theorem Qrg (w:World)(g:Nat)(N:Qao) (ls:List (List Int)) (Q:Option Addr) (L cq:Nat) (lv a:Int) (hg:Qev w g N) (hq:RdT w Q L ls) (hok:Qau N) (hP:Qay N.vs.length ls) :
 Calls Tryz.prog 75 #[.pointer (some ⟨g,0,none⟩),.agg #[.slice Q L cq],.int .i64 lv,.int .i64 a] w fun e w'=>e=.returned (.int .i64 (leF N ls lv a))∧Below w.heap.size w w':=by
 have hb1:Below w.heap.size w (w.alloc (.cells #[.slice Q L cq] 87)):=Qah;have HE:=Zh (Qod _ g N ls Q L cq lv a (hg.below hb1) (hq.below hb1) hok hP);clear hg hq hok hP
 go_enter Tryz.func75,Tryz.ntmps75
 go_wp2_with fail
 with_reducible refine HE.out.mono ?_
 unfold Qqn;rintro e w' ⟨rfl,hb⟩;have HB:=Zh (Zb hb1 hb);clear hb hb1
 go_wp2_with fail
 go_ret
 exact ⟨rfl,HB.out⟩
end Go.Proofs.YteaoiabikjnkeaaGreatDoor
