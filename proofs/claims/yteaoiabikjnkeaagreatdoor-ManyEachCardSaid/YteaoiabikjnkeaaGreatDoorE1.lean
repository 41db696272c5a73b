/- Parts of the proof: AsQ, AsM, AsT, AsL, AsR. -/
import Derived.Test.YteaoiabikjnkeaaGreatDoorR1
import Derived.Test.YteaoiabikjnkeaaGreatDoorR2
import Derived.Test.YteaoiabikjnkeaaGreatDoorR3
import Derived.Test.YteaoiabikjnkeaaGreatDoorR4
import Derived.Test.YteaoiabikjnkeaaGreatDoorR5
import Derived.Test.YteaoiabikjnkeaaGreatDoorR6
import Derived.Test.YteaoiabikjnkeaaGreatDoorR7
import Derived.Test.YteaoiabikjnkeaaGreatDoorR8
import Derived.Test.YteaoiabikjnkeaaGreatDoorR9
import Derived.Test.YteaoiabikjnkeaaGreatDoorR10
import Derived.Test.YteaoiabikjnkeaaGreatDoorR11
import Derived.Test.YteaoiabikjnkeaaGreatDoorR12
import Derived.Test.YteaoiabikjnkeaaGreatDoorR13
import Derived.Test.YteaoiabikjnkeaaGreatDoorR14
import Derived.Test.YteaoiabikjnkeaaGreatDoorR15
import Derived.Test.YteaoiabikjnkeaaGreatDoorR16
import Derived.Test.YteaoiabikjnkeaaGreatDoorR17
import Derived.Test.YteaoiabikjnkeaaGreatDoorR18
import Derived.Test.YteaoiabikjnkeaaGreatDoorR19
import Derived.Test.YteaoiabikjnkeaaGreatDoorR20
import Derived.Test.YteaoiabikjnkeaaGreatDoorR21
import Derived.Test.YteaoiabikjnkeaaGreatDoorR22
import Derived.Test.YteaoiabikjnkeaaGreatDoorR23
import Derived.Test.YteaoiabikjnkeaaGreatDoorR24
import Derived.Test.YteaoiabikjnkeaaGreatDoorR25
import Derived.Test.YteaoiabikjnkeaaGreatDoorR26
import Derived.Test.YteaoiabikjnkeaaGreatDoorShelf3
namespace Go.Proofs.YteaoiabikjnkeaaGreatDoor
open Go.RowKit Go.Proofs.Tryz
section
variable {N:Qap} {ls:List (List Int)} {s t:Nat} {d:List Int}
end
/-! A search that takes the least first and stops where its end is taken. -/
theorem Dij.hit {St:Qbx}{s t:Nat}{dn hp:Nat→Option Int}(h:Dij St s dn hp)(h0:∀ p q d,St p q d→0≤d){c:Int}(hp1:hp t=some c)(hm:∀ q e,hp q=some e→c≤e):Lst (Rch St s t) c:=.inl ⟨h.hr t c hp1,h.least h0 hp1 hm⟩
section
variable {N:Qap} {ls:List (List Int)} {av:List Int} {s:Nat}
end
section
variable {N:Qap} {ls:List (List Int)} {av:List Int} {s a:Nat}
variable {bf:List Int} {dn dn':Nat→Option Int} {q:Nat} {c:Int} {hs:List (Nat×Nat)}
theorem Via.hopP (h:Via N ls av s bf dn q c hs):HopP N ls av s q c hs:=by
 induction h with
 | start=>exact .start
 | step _ _ _ _ h2 ih=>exact ih.step h2
theorem Via.set {r:Nat}{v:Int}(h:Via N ls av s bf dn q c hs)(hq:q≠r)(hr:dn r=none):Via N ls av s (bf.set r v) dn q c hs:=by
 induction h with
 | start=>exact .start
 | @step p q c d hs h1 h2 h3 h4 h5 ih =>
  have hp:p≠r:=fun e=>by subst e;rw [hr] at h2;cases h2
  exact .step (ih hp) h2 h3 (by rw [List.getElem?_set_ne (fun e=>hq e.symm)];exact h4) h5
theorem Via.more (h:Via N ls av s bf dn q c hs)(hd:∀ r e,dn r=some e→dn' r=some e):Via N ls av s bf dn' q c hs:=by
 induction h with
 | start=>exact .start
 | step _ h2 h3 h4 h5 ih=>exact .step ih (hd _ _ h2) h3 h4 h5
theorem Via.uniq {c':Int} {hs':List (Nat×Nat)} (h:Via N ls av s bf dn q c hs) (g:Via N ls av s bf dn q c' hs'):hs=hs':=by
 induction h generalizing c' hs' with
 | start =>
  cases g with
  | start=>rfl
  | step _ _ h _ _=>exact absurd rfl h
 | step h1 h2 h3 h4 h5 ih =>
  cases g with
  | start=>exact absurd rfl h3
  | step g1 g2 g3 g4 g5 =>
   rw [h4] at g4;have e:=Option.some.inj g4;obtain rfl:=Int.ofNat.inj e;rw [ih g1]
theorem viaLen_eq (h:Via N ls av s bf dn q c hs):viaLen N ls av s bf dn q=hs.length:=by
 unfold viaLen;have he:∃ c hs,Via N ls av s bf dn q c hs:=⟨c,hs,h⟩;rw [dif_pos he];exact congrArg List.length ((Classical.choose_spec (Classical.choose_spec he)).uniq h)
theorem ViaI.take {hp:Nat→Option Int}{p k:Nat}(h:ViaI N ls av s bf dn hp k)(hp1:hp p=some c)(hd:dn p=none):ViaI N ls av s bf (fun q=>if q=p then some c else dn q) (fun q=>if q=p then none else hp q) (k+1):=by
 have hm:∀ r e,dn r=some e→(fun q=>if q=p then some c else dn q) r=some e:=fun r e hr=>by
  have:r≠p:=fun e'=>by subst e';rw [hd] at hr;cases hr
  simp [this,hr]
 refine ⟨fun q e hq=>?_,fun q e hq=>?_,?_⟩
 · by_cases hqp:q=p
   · subst hqp
     simp at hq;subst hq;obtain ⟨hs,h1,h2⟩:=h.wait q c hp1;exact ⟨hs,h1.more hm,by omega⟩
   · simp [hqp] at hq
     obtain ⟨hs,h1,h2⟩:=h.done q e hq;exact ⟨hs,h1.more hm,by omega⟩
 · by_cases hqp:q=p
   · simp [hqp] at hq
   · simp [hqp] at hq
     obtain ⟨hs,h1,h2⟩:=h.wait q e hq;exact ⟨hs,h1.more hm,by omega⟩
 · left
   by_cases hsp:s=p
   · simp [hsp]
   · simp only [if_neg hsp]
     rcases h.st with h1|h1
     · exact h1
     · exact absurd (h1.2 p (fun e=>hsp e.symm)) (by rw [hp1];exact fun h=>by cases h)
theorem ViaI.put {hp hp':Nat→Option Int}{p b k:Nat}{d:Int}(h:ViaI N ls av s bf dn hp k)(hp1:dn p=some c)(hb:dn b=none)(hbl:b<bf.length)(hst:HSt N ls av p b d)(h1:∀ r,r≠b→hp' r=hp r) (h2:hp' b=some (c+d)):ViaI N ls av s (bf.set b (p:Int)) dn hp' k:=by
 have hs0:dn s≠none:=by
  rcases h.st with g|g
  · exact g
  · rw [g.1 p] at hp1;cases hp1
 refine ⟨fun q e hq=>?_,fun q e hq=>?_,?_⟩
 · obtain ⟨hs,g,g2⟩:=h.done q e hq
   exact ⟨hs,g.set (fun e'=>by subst e';rw [hb] at hq;cases hq) hb,g2⟩
 · by_cases hqb:q=b
   · subst hqb
     rw [h2] at hq
     cases hq
     obtain ⟨hs,g,g2⟩:=h.done p c hp1;have hqs:q≠s:=fun e=>hs0 (by rw [←e];exact hb)
     exact ⟨_,.step (g.set (fun e'=>by subst e';rw [hb] at hp1;cases hp1) hb) hp1 hqs (by rw [List.getElem?_set_self hbl]) hst,by rw [List.length_append,List.length_singleton];exact g2⟩
   · rw [h1 q hqb] at hq
     obtain ⟨hs,g,g2⟩:=h.wait q e hq;exact ⟨hs,g.set hqb hb,g2⟩
 · exact .inl hs0
end
def RunP (N:Qap) (ls:List (List Int)) (av:List Int) (s t:Nat) (v:Int) (hs:List (Nat×Nat)):Prop :=
 (wV N s=1152921504606846976∧v=1152921504606846976∧hs=[])∨(wV N s≠1152921504606846976∧Lst (Rch (HSt N ls av) s t) v∧(v=1152921504606846976∧hs=[]∨HopP N ls av s t v hs))
section
variable {N:Qap} {ls:List (List Int)} {av:List Int} {s t na p:Nat} {c:Int} {os cs:List Int} {i:Nat} {dnf hp:Nat→Option Int} {dn:List Bool} {bf:List Int}
theorem RunI.miss (hok:Qaz N)(h:RunI N ls av s t na dnf hp dn bf)(he:∀ q,hp q=none):Lst (Rch (HSt N ls av) s t) 1152921504606846976:=h.dij.miss (HSt.pos hok) he h.nt
theorem RunI.hit (hok:Qaz N)(h:RunI N ls av s t na dnf hp dn bf)(hp1:hp t=some c)(hm:∀ q e,hp q=some e→c≤e):Lst (Rch (HSt N ls av) s t) c:=h.dij.hit (HSt.pos hok) hp1 hm
theorem RunI.free (h:RunI N ls av s t na dnf hp dn bf)(hpn:p<na)(hp1:hp p=some c):dnf p=none∧dn.getD p false=false:=by
 have hno:dnf p=none:=by
  cases hd:dnf p with
  | none=>rfl
  | some e=>have:=h.dij.off p e hd;rw [hp1] at this;cases this
 refine ⟨hno,?_⟩
 cases hd:dn.getD p false with
 | false=>rfl
 | true=>exact absurd hno ((h.fl p hpn).1 hd)
theorem RunI.take (hok:Qaz N)(hP:Qbn N.vs.length ls) (hE:∀ (j:Nat) (l:List Int) (a b:Nat) (y z:Tri),ls[j]?=some l→N.ar[a]?=some y→N.ar[b]?=some z→Qad l y.1≠Qad l y.2.1→Qad l z.1=Qad l y.2.1→Qad l z.2.1≠Qad l y.2.1→∃ v,Qgn N (Qel l (Qad l y.2.1)) a b v)
 (hs:∃ x,N.ar[s]?=some x) (hav:toV N s∈av) (h:RunI N ls av s t na dnf hp dn bf) (hpn:p<na) (hp1:hp p=some c) (hm:∀ q e,hp q=some e→c≤e) (hpt:p≠t) :
 RunJ N ls av s t na p c os cs 0 (fun q=>if q=p then some c else dnf q) (fun q=>if q=p then none else hp q) (dn.set p true) bf∧Quw N ls av p:=by
 obtain ⟨hno,hdn⟩:=h.free hpn hp1;have hr:=h.dij.hr p c hp1;have hpl:p<dn.length:=by rw [h.ld];exact hpn
 refine ⟨⟨(h.dij.take (HSt.pos hok) hp1 hm).conv (fun r d ⟨j,_,_,hj,_⟩=>by omega),?_,fun q hq=>?_,fun q e hq=>?_,by rw [List.length_set];exact h.ld,h.lb,?_,hr.pos (HSt.pos hok),?_⟩,Qol hok hP hav hr⟩
 · rw [Qct hpl hdn]
   exact h.via.take hp1 hno
 · by_cases e:q=p
   · subst e
     simp [List.getD_eq_getElem?_getD,hpl]
   · have e':¬p=q:=fun x=>e x.symm
     have:=h.fl q hq
     simpa [List.getD_eq_getElem?_getD,List.getElem?_set,e,e'] using this
 · by_cases e1:q=p
   · rw [if_pos e1] at hq;cases hq
   · rw [if_neg e1] at hq;exact h.bd q e hq
 · simp only [if_neg (fun e:t=p=>hpt e.symm)]
   exact h.nt
 · obtain ⟨e,h1,h2⟩:=rchH_bd hok hP hE hs hav hr
   have:=h.dij.least (HSt.pos hok) hp1 hm e h1;omega
theorem RunJ.off (h:RunJ N ls av s t na p c os cs i dnf hp dn bf){b:Nat}{v:Int}{y:Tri} (hb:os[i]?=some (b:Int)) (hv:cs[i]?=some v) (hy:N.ar[b]?=some y) (hst:HSt N ls av p b (v+y.2.2)) (hbn:b<na) (hd:dn.getD b false=true):RunJ N ls av s t na p c os cs (i+1) dnf hp dn bf :=
 ⟨(h.dij.put hst (.inl ⟨(h.fl b hbn).1 hd,fun e he=>h.dij.dm b e he _ ((h.dij.dr p c h.dij.at_).step hst),rfl⟩)).conv (Qmc hb hv hy),h.via,h.fl,h.bd,h.ld,h.lb,h.nt,h.c0⟩
theorem RunJ.put (hok:Qaz N)(h:RunJ N ls av s t na p c os cs i dnf hp dn bf){b:Nat}{v:Int}{y:Tri} (hb:os[i]?=some (b:Int)) (hv:cs[i]?=some v) (hy:N.ar[b]?=some y) (hst:HSt N ls av p b (v+y.2.2)) (hbn:b<na) (hd:dn.getD b false=false) :
 RunJ N ls av s t na p c os cs (i+1) dnf (Qiu hp b (c+(v+y.2.2))) dn (if putB hp b (c+(v+y.2.2)) then bf.set b (p:Int) else bf):=by
 have hdn:dnf b=none:=by
  cases e:dnf b with
  | none=>rfl
  | some x =>
   have:=(h.fl b hbn).2 (by rw [e];exact fun h=>by cases h)
   rw [hd] at this
   cases this
 obtain ⟨x,hx⟩:∃ x,x=c+(v+y.2.2):=⟨_,rfl⟩;rw [←hx];have hne:∀ r,r≠b→Qiu hp b x r=hp r:=fun r hr=>by unfold Qiu;rw [if_neg hr]
 have hat0:hp b=none→Qiu hp b x b=some x:=fun e=>by unfold Qiu;rw [if_pos rfl,e]
 have hat1:∀ z,hp b=some z→Qiu hp b x b=some (if z≤x then z else x):=fun z e=>by unfold Qiu;rw [if_pos rfl,e]
 have hbd:∀ q e,Qiu hp b x q=some e→e≤MB+70379481595904:=fun q e hq=>by
  by_cases e1:q=b
  · subst e1
    have h1:=(hst.bd hok).2;have h2:=h.c0.2
    cases e2:hp q with
    | none=>rw [hat0 e2] at hq;cases hq;omega
    | some z =>
     rw [hat1 z e2] at hq;simp only [Option.some.injEq] at hq;have:=h.bd q z e2
     split at hq <;> omega
  · rw [hne q e1] at hq
    exact h.bd q e hq
 refine ⟨(h.dij.put hst (.inr ⟨hdn,hne,?_⟩)).conv (Qmc hb hv hy),?_,h.fl,hbd,h.ld,by split <;> simp [h.lb],h.nt,h.c0⟩
 · cases e2:hp b with
   | none=>exact .inr ⟨fun e h=>(by cases h),by rw [hat0 e2,hx]⟩
   | some z =>
    by_cases e3:z≤x
    · exact .inl ⟨z,rfl,by omega,by rw [hat1 z e2,if_pos e3]⟩
    · exact .inr ⟨fun e h=>by cases h;omega,by rw [hat1 z e2,if_neg e3,hx]⟩
 · cases e2:hp b with
   | none =>
    rw [show putB hp b x=true by unfold putB;rw [e2],if_pos rfl]
    exact h.via.put h.dij.at_ hdn (by rw [h.lb];exact hbn) hst hne (by rw [hat0 e2,hx])
   | some z =>
    by_cases e3:z≤x
    · rw [show putB hp b x=false by unfold putB;rw [e2];simp [e3]]
      have:Qiu hp b x=hp:=funext fun r=>by
       by_cases e1:r=b
       · subst e1;rw [hat1 z e2,if_pos e3,e2]
       · exact hne r e1
      rw [this];exact h.via
    · rw [show putB hp b x=true by unfold putB;rw [e2];simp [e3],if_pos rfl]
      exact h.via.put h.dij.at_ hdn (by rw [h.lb];exact hbn) hst hne (by rw [hat1 z e2,if_neg e3,hx])
theorem RunJ.all (h:RunJ N ls av s t na p c os cs i dnf hp dn bf)(hn:NxtP N ls av p os cs)(hi:os.length≤i):RunI N ls av s t na dnf hp dn bf :=
 ⟨h.dij.done (fun q d hq=>by
  obtain ⟨k,v,y,h1,h2,h3,h4,h5,h6⟩:=hn.all q d hq;exact ⟨k,v,y,by have:=(Zs h1).1;omega,h1,h2,h3,h4,h5,h6⟩),h.via,h.fl,h.bd,h.ld,h.lb,h.nt⟩
end
attribute [local go_sem ↓] Go.wp_at_zero Go.wp_at_succ
set_option maxRecDepth 20000 in
set_option maxHeartbeats 2000000 in
theorem levelOf_ok (Q:Option Addr)(L cq n:Nat) (ls:List (List Int)) (v a b:Int) (w:World) (h:RdT w Q L ls) (hP:Qbn n ls) :
 Calls prog 69 #[.slice Q L cq,.int .i64 v,.int .i64 a,.int .i64 b] w fun e w'=>e=.returned (.int .i64 (lvI n ls v a b))∧Below w.heap.size w w':=by
 have HT:=Zh h;have HP:=Zh hP;have hL6:L≤6:=by rw [←h.1];exact hP.l6
 have HL1:=Zh (show 1≤L by rw [←h.1];exact hP.l1)
 have HLL:=Zh h.1;have hix0:∀ W,(Instr.index 243 (.agg #[.int .i64 v,.int .i64 a,.int .i64 b]) (.int .i64 0)).run prog W=.ok (.int .i64 v) W:=fun W=>by rfl
 have hix1:∀ W,(Instr.index 243 (.agg #[.int .i64 v,.int .i64 a,.int .i64 b]) (.int .i64 1)).run prog W=.ok (.int .i64 a) W:=fun W=>by rfl
 have hix2:∀ W,(Instr.index 243 (.agg #[.int .i64 v,.int .i64 a,.int .i64 b]) (.int .i64 2)).run prog W=.ok (.int .i64 b) W:=fun W=>by rfl
 clear h hP
 go_enter func69,ntmps69
 go_wp2_with fail
 go_loopw [9] (fun q W=>∃ j:Nat,j≤L∧q=.int .i64 j∧Below w.heap.size w W∧Qhu ls v [a,b]=Qqo ls v [a,b] j∧(j<L→inR n v∧inR n a∧inR n b)) (fun q _=>(intOf q).toNat)
 case atStart=>exact ⟨L,Zn _,rfl,Zr _ _,by unfold Qhu;rw [HLL.out],fun h=>absurd h (Nat.lt_irrefl _)⟩
 case round =>
  obtain ⟨J,hj,rfl,hb,hlv,hin⟩:=hrel;have HB:=Zh hb;have HLV:=Zh hlv;have HIN:=Zh hin;clear hlv hin
  by_cases h0:J=0
  · subst h0
    have e0:¬((1:Int)≤((0:Nat):Int)):=by omega
    clear hb
    have HZ:=Zh (show lvI n ls v a b=0 by
     unfold lvI;rw [if_pos (HIN.out (by have:=HL1.out;omega)),HLV.out]
     rfl)
    go_wp2_with fail
    go_ret
    rw [HZ.out];exact ⟨rfl,HB.out⟩
  · obtain ⟨j,hJ⟩:∃ j,J=j+1:=⟨J-1,by omega⟩
    have e0:(1:Int)≤(J:Int):=by omega
    have HJ:=Zh hJ;obtain ⟨qb,qo,A1,n1,c1,l,rfl,hl,k0,k1,_,_⟩:=(HT.out.below hb).at_ (i:=j) (by omega);have hlo:=HP.out.lvl l (Zm hl);obtain rfl:n=n1:=by rw [←k1.1];exact hlo.len.symm
    have e1:(J:Int)-1=(j:Int):=by omega
    have e2:(0:Int)≤(j:Int):=by omega
    have e3:(j:Int)<(L:Int):=by omega
    have wl:IntKind.i64.wrap (j:Int)=(j:Int):=IntWalk.i64_in _ (by omega);have HL:=Zh hl;have HLO:=Zh hlo;have HR:=Zh k1;clear hl hlo k1 hb hJ h0
    go_wp2_with fail
    obtain ⟨wo,hwo⟩:∃ wo,wo=wr:=⟨_,rfl⟩;subst hwo
    go_loopw [28] (fun q W=>∃ i:Nat,i≤3∧q=.int .i64 i∧W=wo∧(0<i→inR n v)∧(1<i→inR n a)∧(2<i→inR n b)) (fun q _=>3-(intOf q).toNat)
    case atStart=>exact ⟨0,by omega,rfl,rfl,fun h=>by omega,fun h=>by omega,fun h=>by omega⟩
    case round =>
     obtain ⟨i,hi,rfl,rfl,h1,h2,h3⟩:=hrel;have H1:=Zh h1;have H2:=Zh h2;have H3:=Zh h3;clear h1 h2 h3
     rcases (by omega:i=0∨i=1∨i=2∨i=3) with rfl|rfl|rfl|rfl
     · skip
       by_cases hx:inR n v
       · have hx0:0≤v:=hx.1
         have hx1:v<(n:Int):=hx.2
         have HX:=Zh hx;clear hx
         go_wp2_with fail
         go_roundw
         case rel=>first|exact ⟨0+1,by omega,by go_num,trivial,(fun _=>HX.out),(fun h=>by omega),(fun h=>by omega)⟩|exact ⟨0+1,by omega,by go_num,rfl,(fun _=>HX.out),(fun h=>by omega),(fun h=>by omega)⟩
         case measure=>simp [intOf]
       · have HZ:=Zh (show lvI n ls v a b=0 by unfold lvI;rw [if_neg (fun h=>hx h.1)])
         by_cases hx0:v<0
         · clear hx
           go_wp2_with fail
           go_ret
           rw [HZ.out];exact ⟨rfl,HB.out⟩
         · have hx1:(n:Int)≤v:=by unfold inR at hx;omega
           have hx2:0≤v:=by omega
           clear hx
           go_wp2_with fail
           go_ret
           rw [HZ.out];exact ⟨rfl,HB.out⟩
     · skip
       by_cases hx:inR n a
       · have hx0:0≤a:=hx.1
         have hx1:a<(n:Int):=hx.2
         have HX:=Zh hx;clear hx
         go_wp2_with fail
         go_roundw
         case rel=>first|exact ⟨1+1,by omega,by go_num,trivial,(fun _=>H1.out (by omega)),(fun _=>HX.out),(fun h=>by omega)⟩|exact ⟨1+1,by omega,by go_num,rfl,(fun _=>H1.out (by omega)),(fun _=>HX.out),(fun h=>by omega)⟩
         case measure=>simp [intOf]
       · have HZ:=Zh (show lvI n ls v a b=0 by unfold lvI;rw [if_neg (fun h=>hx h.2.1)])
         by_cases hx0:a<0
         · clear hx
           go_wp2_with fail
           go_ret
           rw [HZ.out];exact ⟨rfl,HB.out⟩
         · have hx1:(n:Int)≤a:=by unfold inR at hx;omega
           have hx2:0≤a:=by omega
           clear hx
           go_wp2_with fail
           go_ret
           rw [HZ.out];exact ⟨rfl,HB.out⟩
     · skip
       by_cases hx:inR n b
       · have hx0:0≤b:=hx.1
         have hx1:b<(n:Int):=hx.2
         have HX:=Zh hx;clear hx
         go_wp2_with fail
         go_roundw
         case rel=>first|exact ⟨2+1,by omega,by go_num,trivial,(fun _=>H1.out (by omega)),(fun _=>H2.out (by omega)),(fun _=>HX.out)⟩|exact ⟨2+1,by omega,by go_num,rfl,(fun _=>H1.out (by omega)),(fun _=>H2.out (by omega)),(fun _=>HX.out)⟩
         case measure=>simp [intOf]
       · have HZ:=Zh (show lvI n ls v a b=0 by unfold lvI;rw [if_neg (fun h=>hx h.2.2)])
         by_cases hx0:b<0
         · clear hx
           go_wp2_with fail
           go_ret
           rw [HZ.out];exact ⟨rfl,HB.out⟩
         · have hx1:(n:Int)≤b:=by unfold inR at hx;omega
           have hx2:0≤b:=by omega
           clear hx
           go_wp2_with fail
           go_ret
           rw [HZ.out];exact ⟨rfl,HB.out⟩
     · have hv:=H1.out (by omega)
       have ha:=H2.out (by omega);have hb:=H3.out (by omega);have HIR:=Zh (And.intro hv (And.intro ha hb));unfold inR at hv ha hb;obtain ⟨vn,rfl⟩:∃ vn:Nat,v=(vn:Int):=⟨v.toNat,by omega⟩;obtain ⟨an,rfl⟩:∃ vn:Nat,a=(vn:Int):=⟨a.toNat,by omega⟩;obtain ⟨bn,rfl⟩:∃ vn:Nat,b=(vn:Int):=⟨b.toNat,by omega⟩;obtain ⟨lb,lo,zv,rfl,hzv,cv⟩:=HR.out.at_ (i:=vn) (by omega);obtain ⟨_,_,za,ea,hza,ca⟩:=HR.out.at_ (i:=an) (by omega)
       cases ea
       obtain ⟨_,_,zb,eb,hzb,cb⟩:=HR.out.at_ (i:=bn) (by omega)
       cases eb
       have p1:(0:Int)≤(vn:Int):=by omega
       have p2:(0:Int)≤(an:Int):=by omega
       have p3:(0:Int)≤(bn:Int):=by omega
       have p4:(vn:Int)<(n:Int):=by omega
       have p5:(an:Int)<(n:Int):=by omega
       have p6:(bn:Int)<(n:Int):=by omega
       have HAP:=Zh (show Qfb ls j (vn:Int) [(an:Int),(bn:Int)]↔zv≠za∧zv≠zb from by
        constructor
        · rintro ⟨l',hl',g⟩
          rw [HL.out] at hl'
          cases hl'
          have g1:=g _ (List.mem_cons_self ..);have g2:=g _ (List.mem_cons_of_mem _ (List.mem_cons_self ..));rw [Qbt hzv,Qbt hza] at g1;rw [Qbt hzv,Qbt hzb] at g2;exact ⟨g1,g2⟩
        · rintro ⟨g1,g2⟩
          refine ⟨l,HL.out,fun x hx=>?_⟩;rw [List.mem_cons,List.mem_cons] at hx
          rcases hx with rfl|rfl|hx
          · rw [Qbt hzv,Qbt hza];exact g1
          · rw [Qbt hzv,Qbt hzb];exact g2
          · cases hx)
       clear hv ha hb hzv hza hzb
       go_wp2_with fail
       refine wp_region_held_drew (S:=fun V=>V=wr.drew) (by kernel_rfl) rfl (fun _=>?_)
       by_cases h1:zv=za
       · have e4:(zv != za)=false:=by simp [h1]
         have HNA:=Zh (show ¬Qfb ls j (vn:Int) [(an:Int),(bn:Int)] from fun h=>(HAP.out.1 h).1 h1)
         clear h1;refine tz 0 40 ?_;refine tz 1 41 ?_;refine tz 2 42 ?_;refine tz 3 43 ?_;refine tz 4 44 ?_;refine tz 5 45 ?_;refine tz 6 46 ?_;refine tz 7 47 ?_;refine tz 8 48 ?_;refine tz 9 49 ?_;refine tw 10 50 ?_;refine tw 11 51 ?_;refine tw 12 52 ?_;refine tw 13 53 ?_;refine tw 14 54 ?_;refine tw 15 55 ?_;refine tw 16 56 ?_;refine tw 17 57 ?_;refine tw 18 58 ?_;refine tz 19 59 ?_;refine Zd ?_;have HLN:=Zh (lvTo_no HNA.out);have HB2:=Zh (HB.out.trans ((Zr _ _).drew.mono HB.out.size))
         go_wp2_with fail
         go_roundw
         case rel=>exact ⟨j,by omega,by go_num,HB2.out,by rw [HLV.out,HJ.out,HLN.out],fun _=>HIR.out⟩
         case measure=>(have:=HJ.out;simp [intOf];omega)
       · have e4:(zv != za)=true:=by simp [h1]
         by_cases h2:zv=zb
         · have e5:(zv != zb)=false:=by simp [h2]
           have HNA:=Zh (show ¬Qfb ls j (vn:Int) [(an:Int),(bn:Int)] from fun h=>(HAP.out.1 h).2 h2)
           clear h1 h2;refine tz 0 40 ?_;refine tz 1 41 ?_;refine tz 2 42 ?_;refine tz 3 43 ?_;refine tz 4 44 ?_;refine tz 5 45 ?_;refine tz 6 46 ?_;refine tz 7 47 ?_;refine tz 8 48 ?_;refine tz 9 49 ?_;refine tz 10 50 ?_;refine tz 11 51 ?_;refine tz 12 52 ?_;refine tz 13 53 ?_;refine tz 14 54 ?_;refine tz 15 55 ?_;refine tz 16 56 ?_;refine tz 17 57 ?_;refine tz 18 58 ?_;refine tz 19 59 ?_;refine Zd ?_;have HLN:=Zh (lvTo_no HNA.out);have HB2:=Zh (HB.out.trans ((Zr _ _).drew.mono HB.out.size))
           go_wp2_with fail
           go_roundw
           case rel=>exact ⟨j,by omega,by go_num,HB2.out,by rw [HLV.out,HJ.out,HLN.out],fun _=>HIR.out⟩
           case measure=>(have:=HJ.out;simp [intOf];omega)
         · have e5:(zv != zb)=true:=by simp [h2]
           have HYA:=Zh (lvTo_yes (HAP.out.2 ⟨h1,h2⟩));clear h1 h2;refine tz 0 40 ?_;refine tz 1 41 ?_;refine tz 2 42 ?_;refine tz 3 43 ?_;refine tz 4 44 ?_;refine tz 5 45 ?_;refine tz 6 46 ?_;refine tz 7 47 ?_;refine tz 8 48 ?_;refine tz 9 49 ?_;refine tz 10 50 ?_;refine tz 11 51 ?_;refine tz 12 52 ?_;refine tz 13 53 ?_;refine tz 14 54 ?_;refine tz 15 55 ?_;refine tz 16 56 ?_;refine tz 17 57 ?_;refine tz 18 58 ?_;refine tz 19 59 ?_;refine Zd ?_;have HB2:=Zh (HB.out.trans ((Zr _ _).drew.mono HB.out.size));have HZ:=Zh (show lvI n ls (vn:Int) (an:Int) (bn:Int)=(J:Int) by unfold lvI;rw [if_pos HIR.out,HLV.out,HJ.out,HYA.out])
           go_wp2_with fail
           go_ret
           rw [HZ.out];exact ⟨rfl,HB2.out⟩
structure QR (V:World) (qb g o:Nat) (N:Qap) (ls:List (List Int)) (s t:Nat) (CA:Option Addr) (NC cC:Nat) (cl:List Int) (Q:Option Addr) (L cq mb bb na:Nat):Prop where
 gr:Qfv V g N
 ov:Qgy V o N.ar ls
 part:RdT V Q L ls
 costs:RdI V CA NC cl
 q0:V.cell? ⟨qb,0,none⟩=some (.pointer (some ⟨g,0,none⟩))
 q1:V.cell? ⟨qb,1,none⟩=some (.pointer (some ⟨o,0,none⟩))
 q2:V.cell? ⟨qb,2,none⟩=some (.slice CA NC cC)
 q3:V.cell? ⟨qb,3,none⟩=some (.int .i64 s)
 q4:V.cell? ⟨qb,4,none⟩=some (.int .i64 t)
 q5:V.cell? ⟨qb,5,none⟩=some (.slice Q L cq)
 q6:V.cell? ⟨qb,6,none⟩=some (.map (some mb))
 q7:V.cell? ⟨qb,7,none⟩=some (.slice (some ⟨bb,0,none⟩) na na)
section
variable {V W:World} {qb g o:Nat} {N:Qap} {ls:List (List Int)} {s t:Nat} {CA:Option Addr} {NC cC:Nat} {cl:List Int} {Q:Option Addr} {L cq mb bb na:Nat}
theorem QR.le (h:QR V qb g o N ls s t CA NC cC cl Q L cq mb bb na)(hl:Le V W):QR W qb g o N ls s t CA NC cC cl Q L cq mb bb na :=
 ⟨h.gr.le hl,h.ov.le hl,h.part.le hl,h.costs.le hl,hl _ _ h.q0,hl _ _ h.q1,hl _ _ h.q2,hl _ _ h.q3,hl _ _ h.q4,hl _ _ h.q5,hl _ _ h.q6,hl _ _ h.q7⟩
theorem QR.below (h:QR V qb g o N ls s t CA NC cC cl Q L cq mb bb na)(hb:Below V.heap.size V W):QR W qb g o N ls s t CA NC cC cl Q L cq mb bb na:=h.le (Le.below hb)
end
set_option maxHeartbeats 2000000 in
theorem qLevel_ok (w:World)(qb g o:Nat)(N:Qap) (ls:List (List Int)) (s t:Nat) (CA:Option Addr) (NC cC:Nat) (cl:List Int) (Q:Option Addr) (L cq mb bb na a:Nat) (x xs xt:Tri) (h:QR w qb g o N ls s t CA NC cC cl Q L cq mb bb na) (hok:Qaz N) (hP:Qbn N.vs.length ls) (hx:N.ar[a]?=some x) (hxs:N.ar[s]?=some xs) (hxt:N.ar[t]?=some xt) :
 Calls prog 125 #[.pointer (some ⟨qb,0,none⟩),.int .i64 a] w fun e w'=>e=.returned (.int .i64 ((Qhu ls (toV N a) [toV N s,frV N t]:Nat):Int))∧Below w.heap.size w w':=by
 have HLV:=Zh (show lvI N.vs.length ls x.2.1 xs.2.1 xt.1=((Qhu ls (toV N a) [toV N s,frV N t]:Nat):Int) from by
  have o1:=hok.arcs x (Zm hx);have o2:=hok.arcs xs (Zm hxs);have o3:=hok.arcs xt (Zm hxt);unfold lvI;rw [if_pos ⟨⟨o1.g0,o1.g1⟩,⟨o2.g0,o2.g1⟩,⟨o3.f0,o3.f1⟩⟩,(Qbs hx).1,(Qbs hxs).1,(Qbs hxt).2.1])
 have HTA:=Zh (fun V (hV:Below w.heap.size w V)=>Qim g a N x V (h.gr.below hV) hx);have HTS:=Zh (fun V (hV:Below w.heap.size w V)=>Qim g s N xs V (h.gr.below hV) hxs);have HFT:=Zh (fun V (hV:Below w.heap.size w V)=>Qje g t N xt V (h.gr.below hV) hxt);have HLO:=Zh (fun V (hV:Below w.heap.size w V)=>levelOf_ok Q L cq N.vs.length ls x.2.1 xs.2.1 xt.1 V (h.part.below hV) hP)
 have HSX:=Zh (show ∀ V,Below w.heap.size w V→V.cell? ⟨qb,0,none⟩=some (.pointer (some ⟨g,0,none⟩))∧V.cell? ⟨qb,3,none⟩=some (.int .i64 s)∧V.cell? ⟨qb,4,none⟩=some (.int .i64 t)∧V.cell? ⟨qb,5,none⟩=some (.slice Q L cq) from
  fun V hV=>⟨(h.below hV).q0,(h.below hV).q3,(h.below hV).q4,(h.below hV).q5⟩)
 clear h hok hP hx hxs hxt
 go_enter func125,ntmps125
 go_wp2_with fail
 refine wp_region_held_drew (S:=fun V=>Below w.heap.size w V) (by kernel_rfl) (Zr _ _).drew (fun _=>?_);refine tz 0 5 ?_;refine tz 1 6 ?_;refine tz 2 7 ?_;refine tz 3 8 ?_;refine tz 4 9 ?_;refine tz 5 10 ?_;refine tz 6 11 ?_;refine tz 7 12 ?_;refine tz 8 13 ?_;refine tz 10 15 ?_;refine tz 11 16 ?_;refine tz 12 17 ?_;refine tz 13 18 ?_;refine tz 14 19 ?_;refine tz 15 20 ?_;refine tz 16 21 ?_;refine tz 17 22 ?_;refine tz 19 24 ?_;refine tz 20 25 ?_;refine tz 21 26 ?_;refine tz 22 27 ?_;refine tz 23 28 ?_;refine tz 24 29 ?_;refine tz 25 30 ?_;refine tz 26 31 ?_;refine Zk 9 (fun K hK=>?_);go_simp;with_reducible refine (HTA.out _ (Zr _ _).drew).mono ?_
 rintro r w' ⟨rfl,rfl⟩;go_simp;refine hK.out _ _ (Zr _ _).drew (fun _=>?_);clear hK K;refine Zk 18 (fun K hK=>?_);go_simp;with_reducible refine (HTS.out _ (Zr _ _).drew).mono ?_
 rintro r w' ⟨rfl,rfl⟩;go_simp;refine hK.out _ _ (Zr _ _).drew (fun _=>?_);clear hK K;refine Zk 27 (fun K hK=>?_);go_simp;with_reducible refine (HFT.out _ (Zr _ _).drew).mono ?_
 rintro r w' ⟨rfl,rfl⟩;go_simp;refine hK.out _ _ (Zr _ _).drew (fun _=>?_);clear hK K;refine Zk 28 (fun K hK=>?_);go_simp;with_reducible refine (HLO.out _ (Zr _ _).drew).mono ?_
 rintro r w2 ⟨rfl,hb2⟩;rw [HLV.out];have hb2':Below w.heap.size w w2:=(Zr _ _).drew.trans hb2;go_simp;refine hK.out _ _ hb2' (fun _=>?_);clear hK K;refine tz 29 4 ?_;refine Zd ?_;clear hb2 HSX
 go_wp2_with fail
 go_ret
 exact ⟨rfl,hb2'⟩
set_option maxRecDepth 20000 in
set_option maxHeartbeats 1000000 in
theorem newQuest_ok (w:World)(g o:Nat)(N:Qap) (ls:List (List Int)) (s t:Nat) (CA:Option Addr) (NC cC:Nat) (cl:List Int) (hg:Qfv w g N) (ho:Qgy w o N.ar ls) (hc:RdI w CA NC cl) (hok:Qaz N) (hP:Qbn N.vs.length ls) :
 Calls prog 63 #[.pointer (some ⟨g,0,none⟩),.pointer (some ⟨o,0,none⟩),.slice CA NC cC,.int .i64 s,.int .i64 t] w fun e w'=>∃ qb Q cq mb bb,e=.returned (.pointer (some ⟨qb,0,none⟩)) ∧
  QR (msk w' (fun b=>b<w'.heap.size∧b≠bb∧b≠mb)) qb g o N ls s t CA NC cC cl Q ls.length cq mb bb N.ar.length∧MpQ w' mb 0 (fun _ _=>none)∧Blk w' bb 3 (Qbu (List.replicate N.ar.length 0))∧(w.heap.size≤mb∧w.heap.size≤bb∧mb≠bb)∧Below w.heap.size w w':=by
 have HG:=Zh hg;have HO:=Zh ho;have HC:=Zh hc;obtain ⟨na,hna⟩:∃ na,na=N.ar.length:=⟨_,rfl⟩;have hla:na≤16384:=by rw [hna];exact hok.la
 have hmk:=Qcv na (by omega);have HGA:=Zh (fun V (hV:Below w.heap.size w V)=>(show Calls prog 85 #[.pointer (some ⟨g,0,none⟩)] V fun e w'=>e=.returned (.int .i64 na)∧V=w' by rw [hna];exact Qfp g N V (hg.below hV)))
 have HPT:=Zh (Qvy o N.ar ls w ho (by have:=hP.l6;omega) (fun l hl=>by have:=(hP.lvl l hl).len;have:=hok.lv;omega));obtain ⟨L,hL⟩:∃ L,L=ls.length:=⟨_,rfl⟩;rw [←hL] at HPT;rw [←hna,←hL];clear hg ho hc hok hP hna hL
 go_enter func63,ntmps63
 go_wp2_with fail
 with_reducible refine HPT.out.mono ?_
 rintro r w1 ⟨Q,cq,rfl,hQ,hb1⟩;have HQ:=Zh hQ;have hfl:∀ V,(Instr.field 87 (.agg #[.slice Q L cq]) 0).run prog V=.ok (.slice Q L cq) V:=fun V=>by rfl
 have hmm:=@run_makeMap prog;clear hQ HPT
 go_wp2_with fail
 (refine Qac ?_;intro w2 hw2)
 have hb2:Below w1.heap.size w1 w2:=by rw [hw2];exact Qah
 have HM2:=Zh (show MpQ w2 w1.heap.size 0 (fun _ _=>none) by rw [hw2];exact MpQ.new w1)
 clear hw2;have hb12:=Zb hb1 hb2;with_reducible refine (HGA.out w2 hb12).mono ?_
 rintro r w' ⟨rfl,rfl⟩
 go_wp2_with fail
 obtain ⟨bb,hbb⟩:∃ b,b=w2.heap.size:=⟨_,rfl⟩;obtain ⟨mb,hmb⟩:∃ b,b=w1.heap.size:=⟨_,rfl⟩;rw [←hbb,←hmb];rw [←hmb] at HM2;have s12:mb<w2.heap.size:=HM2.out.lt
 have s1:w.heap.size≤mb:=by rw [hmb];exact hb1.size
 obtain ⟨w3,hw3⟩:∃ V,V=w2.alloc (.cells (Qbo (.int .i64 0) na) 3):=⟨_,rfl⟩;rw [←hw3];have hB3:Blk w3 bb 3 (Qbu (List.replicate na 0)):=by rw [hw3,←Qar];exact Blk.new' _ _ _ hbb
 have hb3:Below w2.heap.size w2 w3:=by rw [hw3];exact (Zr _ _).alloc (Zn _) _
 have s3:w3.heap.size=bb+1:=by rw [hw3,World.size_alloc,hbb]
 clear hw3;obtain ⟨w4,hw4⟩:∃ V,V=w3.alloc (.cells #[.pointer (some ⟨g,0,none⟩),.pointer (some ⟨o,0,none⟩),.slice CA NC cC,.int .i64 s,.int .i64 t,.slice Q L cq,.map (some mb),.slice (some ⟨bb,0,none⟩) na na] 220):=⟨_,rfl⟩;rw [←hw4];have hB4:Blk w4 (bb+1) 220 #[.pointer (some ⟨g,0,none⟩),.pointer (some ⟨o,0,none⟩),.slice CA NC cC,.int .i64 s,.int .i64 t,.slice Q L cq,.map (some mb),.slice (some ⟨bb,0,none⟩) na na]:=by rw [hw4];exact Blk.new' _ _ _ s3.symm
 have hb4:Below w3.heap.size w3 w4:=by rw [hw4];exact (Zr _ _).alloc (Zn _) _
 have s4:w4.heap.size=bb+2:=by rw [hw4,World.size_alloc,s3]
 clear hw4;have hb24:=Zb hb3 hb4;have hb14:=Zb hb2 hb24;have hb04:=Zb hb1 hb14;have hle:Le w (msk w4 (fun b=>b<w4.heap.size∧b≠bb∧b≠mb)):=Le.mskBelow hb04 (fun b hb=>⟨by omega,by omega,by omega⟩);have hmk4:∀ i v,w4.cell? ⟨bb+1,i,none⟩=some v→(msk w4 (fun b=>b<w4.heap.size∧b≠bb∧b≠mb)).cell? ⟨bb+1,i,none⟩=some v:=fun i v h=>Qev h ⟨by omega,by omega,by omega⟩
 go_ret
 refine ⟨bb+1,Q,cq,mb,bb,rfl,⟨HG.out.le hle,HO.out.le hle,(HQ.out.le (fun a v h=>?_)),HC.out.le hle,hmk4 _ _ (Zq hB4),hmk4 _ _ (Zq hB4),hmk4 _ _ (Zq hB4),hmk4 _ _ (Zq hB4),hmk4 _ _ (Zq hB4),hmk4 _ _ (Zq hB4),hmk4 _ _ (Zq hB4),hmk4 _ _ (Zq hB4)⟩,HM2.out.below hb24,hB3.below hb4 hB3.lt,⟨s1,by omega,by omega⟩,hb04⟩;obtain ⟨h1,h2⟩:=Qbd.1 h;exact Qbd.2 ⟨⟨by omega,by omega,by omega⟩,Zc hb14 (Zn _) h2⟩
end Go.Proofs.YteaoiabikjnkeaaGreatDoor
