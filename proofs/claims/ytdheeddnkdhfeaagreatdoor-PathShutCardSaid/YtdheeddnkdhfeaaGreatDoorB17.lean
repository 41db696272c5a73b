/- Parts of the proof: Ye, AsT, AsU, Yi, AsH, AsX. -/
import Derived.Test.YtdheeddnkdhfeaaGreatDoorB16
import Derived.Test.YtdheeddnkdhfeaaGreatDoorShelf3
namespace Go.Proofs.YtdheeddnkdhfeaaGreatDoor
open Go.RowKit Go.Proofs.Tryz
attribute [local go_sem ↓] Go.wp_at_zero Go.wp_at_succ
structure OR (V:World) (qb g o:Nat) (N:Qal) (ls:List (List Int)) (CA:Option Addr) (NC cC:Nat) (cl:List Int) (Q:Option Addr) (L cq mb:Nat):Prop where
 gr:Qep V g N
 ov:Qfa V o N.ar ls
 part:RdT V Q L ls
 costs:RdI V CA NC cl
 q0:V.cell? ⟨qb,0,none⟩=some (.pointer (some ⟨g,0,none⟩))
 q1:V.cell? ⟨qb,1,none⟩=some (.pointer (some ⟨o,0,none⟩))
 q2:V.cell? ⟨qb,2,none⟩=some (.slice CA NC cC)
 q5:V.cell? ⟨qb,3,none⟩=some (.slice Q L cq)
 q6:V.cell? ⟨qb,4,none⟩=some (.map (some mb))
section
variable {V W:World} {qb g o:Nat} {N:Qal} {ls:List (List Int)} {CA:Option Addr} {NC cC:Nat} {cl:List Int} {Q:Option Addr} {L cq mb:Nat}
theorem OR.le (h:OR V qb g o N ls CA NC cC cl Q L cq mb)(hl:Le V W):OR W qb g o N ls CA NC cC cl Q L cq mb :=
 ⟨h.gr.le hl,h.ov.le hl,h.part.le hl,h.costs.le hl,hl _ _ h.q0,hl _ _ h.q1,hl _ _ h.q2,hl _ _ h.q5,hl _ _ h.q6⟩
theorem OR.below (h:OR V qb g o N ls CA NC cC cl Q L cq mb)(hb:Below V.heap.size V W):OR W qb g o N ls CA NC cC cl Q L cq mb:=h.le (Le.below hb)
end
set_option maxHeartbeats 1000000 in
theorem Qhh (w:World)(qb g o:Nat)(N:Qal) (ls:List (List Int)) (CA:Option Addr) (NC cC:Nat) (cl:List Int) (Q:Option Addr) (L cq mb J j v:Nat) (l:List Int) (h:OR w qb g o N ls CA NC cC cl Q L cq mb) (hj:J=j+1) (hl:ls[j]?=some l) (hv:v<l.length) (hL:L≤1000000) :
 Calls prog 163 #[.pointer (some ⟨qb,0,none⟩),.int .i64 J,.int .i64 v] w fun e w'=>e=.returned (.tuple #[.int .i64 (Qab l v),.bool true])∧w=w':=by
 have q5:=h.q5;obtain ⟨qb2,qo2,A0,n0,c0,l0,rfl,hl0,k0,k1,_,_⟩:=h.part.at_ (i:=j) (by have:=h.part.1;have:=(Zs hl).1;omega);rw [hl] at hl0
 cases hl0
 obtain ⟨kb,ko,z,rfl,hz,k2⟩:=k1.at_ (i:=v) (by rw [←k1.1];exact hv);have hc:Qab l v=z:=by unfold Qab;rw [Ya,Yl,hz];rfl
 have hjL:j<L:=by have:=h.part.1;have:=(Zs hl).1;omega
 have hn0:l.length=n0:=k1.1;rw [hc];have m1:¬((J:Int)<1):=by omega
 have m2:¬((L:Int)<(J:Int)):=by omega
 have m3:¬((v:Int)<0):=by omega
 have m4:¬((n0:Int)≤(v:Int)):=by omega
 have m5:(v:Int)<(n0:Int):=by omega
 have m6:(j:Int)<(L:Int):=by omega
 have m7:(0:Int)≤(j:Int):=by omega
 have m8:(0:Int)≤(v:Int):=by omega
 have m9:(J:Int)-1=(j:Int):=by omega
 have wl:IntKind.i64.wrap (j:Int)=(j:Int):=IntWalk.i64_in _ (by omega);clear h hl hz hc k1 hjL hj hn0 hv
 go_enter func163,ntmps163
 go_wp2_with fail
 refine bodyPost_ret (v:=.tuple #[.int .i64 z,.bool true]) (by simp [results,results163,go_sem]) rfl ?_;exact ⟨rfl,rfl⟩
set_option maxHeartbeats 1000000 in
theorem Qqk (w:World)(qb g o:Nat)(N:Qal) (ls:List (List Int)) (CA:Option Addr) (NC cC:Nat) (cl:List Int) (Q:Option Addr) (L cq mb J j b:Nat) (c:Int) (l:List Int) (y:Tri) (h:OR w qb g o N ls CA NC cC cl Q L cq mb) (hok:Qaq N) (hj:J=j+1) (hl:ls[j]?=some l) (hn:l.length=N.vs.length) (hL:L≤1000000) (hy:N.ar[b]?=some y) :
 Calls prog 166 #[.pointer (some ⟨qb,0,none⟩),.int .i64 J,.int .i64 c,.int .i64 b] w fun e w'=>e=.returned (.bool (decide (Qab l y.1=c) && decide (Qab l y.2.1=c)))∧w=w':=by
 obtain ⟨u,v,e1,e2,hu,hv⟩:=Qeb hok hy;have hlv:=hok.lv;have HF:=Zh (Qgf g b N y w h.gr hy);have HT:=Zh (Qet g b N y w h.gr hy);have HC1:=Zh (Qhh w qb g o N ls CA NC cC cl Q L cq mb J j u l h hj hl (by omega) hL);have HC2:=Zh (Qhh w qb g o N ls CA NC cC cl Q L cq mb J j v l h hj hl (by omega) hL);rw [←e1] at HC1;rw [←e2] at HC2;have q0:=h.q0;obtain ⟨u',hu'⟩:∃ u',u'=Qab l y.1:=⟨_,rfl⟩;obtain ⟨v',hv'⟩:∃ v',v'=Qab l y.2.1:=⟨_,rfl⟩;rw [←hu'] at HC1 ⊢;rw [←hv'] at HC2 ⊢;clear h hok hj hl hn hy e1 e2 hu hv hlv hu' hv'
 go_enter func166,ntmps166
 go_wp2_with fail
 with_reducible refine HF.out.mono ?_
 rintro r w' ⟨rfl,rfl⟩
 go_wp2_with fail
 with_reducible refine HC1.out.mono ?_
 rintro r w' ⟨rfl,rfl⟩
 go_wp2_with fail
 with_reducible refine HT.out.mono ?_
 rintro r w' ⟨rfl,rfl⟩
 go_wp2_with fail
 with_reducible refine HC2.out.mono ?_
 rintro r w' ⟨rfl,rfl⟩
 by_cases i1:u'=c <;> by_cases i2:v'=c
 all_goals
  go_wp2_with fail
  go_ret
  simp [i1,i2]
def RunP (N:Qal) (ls:List (List Int)) (av:List Int) (s t:Nat) (v:Int) (hs:List (Nat×Nat)):Prop :=
 (wV N s=1152921504606846976∧v=1152921504606846976∧hs=[])∨(wV N s≠1152921504606846976∧Lst (Rch (HSt N ls av) s t) v∧(v=1152921504606846976∧hs=[]∨HopP N ls av s t v hs))
def GoneQ (N:Qal)(os cs:List Int)(i:Nat):Nat→Int→Prop:=fun r d=>∃ (j:Nat) (v:Int) (y:Tri),j<i∧os[j]?=some (r:Int)∧cs[j]?=some v∧N.ar[r]?=some y∧v≠1152921504606846976∧y.2.2≠1152921504606846976∧d=v+y.2.2
structure Qtf (N:Qal) (ls:List (List Int)) (av:List Int) (s t na:Nat) (dnf hp:Nat→Option Int) (dn:List Bool) (bf:List Int):Prop where
 dij:Dij (HSt N ls av) s dnf hp
 via:Qvd N ls av s bf dnf hp (dn.countP (fun b=>b))
 fl:∀ q,q<na→(dn.getD q false=true↔dnf q≠none)
 bd:∀ q e,hp q=some e→e≤MB+70379481595904
 ld:dn.length=na
 lb:bf.length=na
 nt:dnf t=none
structure Qqc (N:Qal) (ls:List (List Int)) (av:List Int) (s t na p:Nat) (c:Int) (os cs:List Int) (i:Nat) (dnf hp:Nat→Option Int) (dn:List Bool) (bf:List Int):Prop where
 dij:Qkt (HSt N ls av) s dnf hp p c (GoneQ N os cs i)
 via:Qvd N ls av s bf dnf hp (dn.countP (fun b=>b))
 fl:∀ q,q<na→(dn.getD q false=true↔dnf q≠none)
 bd:∀ q e,hp q=some e→e≤MB+70379481595904
 ld:dn.length=na
 lb:bf.length=na
 nt:dnf t=none
 c0:0≤c∧c≤MB
section
variable {N:Qal} {ls:List (List Int)} {av:List Int} {s t na p:Nat} {c:Int} {os cs:List Int} {i:Nat} {dnf hp:Nat→Option Int} {dn:List Bool} {bf:List Int}
theorem Qkt.conv {St:Qbb}{G G':Nat→Int→Prop}(h:Qkt St s dnf hp p c G)(hg:∀ r d,G' r d→G r d):Qkt St s dnf hp p c G' :=
 ⟨h.dr,h.dm,h.hr,h.off,fun q e r d h1 h2=>(h.on q e r d h1 h2).imp (fun h3=>⟨h3.1,fun h4=>h3.2 (hg r d h4)⟩) id,h.st,h.at_⟩
theorem HSt.pos (hok:Qaq N)(a b:Nat)(d:Int)(h:HSt N ls av a b d):0≤d:=(h.bd hok).1
theorem Qtf.init:Qtf N ls av s t na (fun _=>none) (Qen (fun _=>none) s 0) (List.replicate na false) (List.replicate na 0):=by
 have h1:∀ q,Qen (fun _=>none) s 0 q=if q=s then some 0 else none:=fun q=>by
  unfold Qen
  by_cases e:q=s <;> simp [e]
 refine ⟨⟨fun p c e=>(by cases e),fun p c e=>(by cases e),fun p c e=>?_,fun p c e=>(by cases e),fun p c q d e=>(by cases e),.inr ⟨0,by rw [h1,if_pos rfl],Int.le_refl _⟩⟩,?_,fun q hq=>?_,fun q e h=>?_,by simp,by simp,rfl⟩
 · rw [h1] at e
   split at e
   · rename_i h2
     subst h2
     cases e
     exact .start
   · cases e
 · have:(List.replicate na false).countP (fun b=>b)=0:=by simp
   rw [this];exact Qvd.init h1
 · rw [getD_rep]
   simp
 · rw [h1] at h
   split at h
   · cases h;unfold MB;omega
   · cases h
theorem Qtf.miss (hok:Qaq N)(h:Qtf N ls av s t na dnf hp dn bf)(he:∀ q,hp q=none):Lst (Rch (HSt N ls av) s t) 1152921504606846976:=h.dij.miss (HSt.pos hok) he h.nt
theorem Qtf.hit (hok:Qaq N)(h:Qtf N ls av s t na dnf hp dn bf)(hp1:hp t=some c)(hm:∀ q e,hp q=some e→c≤e):Lst (Rch (HSt N ls av) s t) c:=h.dij.hit (HSt.pos hok) hp1 hm
theorem Qtf.free (h:Qtf N ls av s t na dnf hp dn bf)(hpn:p<na)(hp1:hp p=some c):dnf p=none∧dn.getD p false=false:=by
 have hno:dnf p=none:=by
  cases hd:dnf p with
  | none=>rfl
  | some e=>have:=h.dij.off p e hd;rw [hp1] at this;cases this
 refine ⟨hno,?_⟩
 cases hd:dn.getD p false with
 | false=>rfl
 | true=>exact absurd hno ((h.fl p hpn).1 hd)
theorem Qtf.take (hok:Qaq N)(hP:Qba N.vs.length ls) (hE:∀ (j:Nat) (l:List Int) (a b:Nat) (y z:Tri),ls[j]?=some l→N.ar[a]?=some y→N.ar[b]?=some z→Qab l y.1≠Qab l y.2.1→Qab l z.1=Qab l y.2.1→Qab l z.2.1≠Qab l y.2.1→∃ v,Qfb N (Qcg l (Qab l y.2.1)) a b v)
 (hs:∃ x,N.ar[s]?=some x) (hav:toV N s∈av) (h:Qtf N ls av s t na dnf hp dn bf) (hpn:p<na) (hp1:hp p=some c) (hm:∀ q e,hp q=some e→c≤e) (hpt:p≠t) :
 Qqc N ls av s t na p c os cs 0 (fun q=>if q=p then some c else dnf q) (fun q=>if q=p then none else hp q) (dn.set p true) bf∧Qya N ls av p:=by
 obtain ⟨hno,hdn⟩:=h.free hpn hp1;have hr:=h.dij.hr p c hp1;have hpl:p<dn.length:=by rw [h.ld];exact hpn
 refine ⟨⟨(h.dij.take (HSt.pos hok) hp1 hm).conv (fun r d ⟨j,_,_,hj,_⟩=>by omega),?_,fun q hq=>?_,fun q e hq=>?_,by rw [Yq];exact h.ld,h.lb,?_,hr.pos (HSt.pos hok),?_⟩,Qnz hok hP hav hr⟩
 · rw [Qdz hpl hdn]
   exact h.via.take hp1 hno
 · by_cases e:q=p
   · subst e
     simp [hpl]
   · have e':¬p=q:=fun x=>e x.symm
     have:=h.fl q hq
     simpa [List.getElem?_set,e,e'] using this
 · by_cases e1:q=p
   · rw [if_pos e1] at hq;cases hq
   · rw [if_neg e1] at hq;exact h.bd q e hq
 · simp only [if_neg (fun e:t=p=>hpt e.symm)]
   exact h.nt
 · obtain ⟨e,h1,h2⟩:=rchH_bd hok hP hE hs hav hr
   have:=h.dij.least (HSt.pos hok) hp1 hm e h1;omega
theorem Qqc.skip (h:Qqc N ls av s t na p c os cs i dnf hp dn bf){b:Nat}{v:Int}{y:Tri} (hb:os[i]?=some (b:Int)) (hv:cs[i]?=some v) (hy:N.ar[b]?=some y) (hno:v=1152921504606846976∨y.2.2=1152921504606846976):Qqc N ls av s t na p c os cs (i+1) dnf hp dn bf :=
 ⟨h.dij.conv (fun r d ⟨j,v',y',hj,h1,h2,h3,h4,h5,h6⟩=>by
  by_cases e:j=i
  · subst e
    rw [hb] at h1;have e1:=Int.ofNat.inj (Yv h1);subst e1;rw [hv] at h2
    cases h2
    rw [hy] at h3
    cases h3
    rcases hno with g|g
    · exact absurd g h4
    · exact absurd g h5
  · exact ⟨j,v',y',by omega,h1,h2,h3,h4,h5,h6⟩),h.via,h.fl,h.bd,h.ld,h.lb,h.nt,h.c0⟩
theorem Qkx {b:Nat}{v:Int}{y:Tri} (hb:os[i]?=some (b:Int)) (hv:cs[i]?=some v) (hy:N.ar[b]?=some y) (r:Nat) (d:Int) (h:GoneQ N os cs (i+1) r d):GoneQ N os cs i r d∨(r=b∧d=v+y.2.2):=by
 obtain ⟨j,v',y',hj,h1,h2,h3,h4,h5,h6⟩:=h
 by_cases e:j=i
 · subst e
   rw [hb] at h1;have e1:=Int.ofNat.inj (Yv h1);subst e1;rw [hv] at h2
   cases h2
   rw [hy] at h3
   cases h3
   exact .inr ⟨rfl,h6⟩
 · exact .inl ⟨j,v',y',by omega,h1,h2,h3,h4,h5,h6⟩
theorem Qqc.off (h:Qqc N ls av s t na p c os cs i dnf hp dn bf){b:Nat}{v:Int}{y:Tri} (hb:os[i]?=some (b:Int)) (hv:cs[i]?=some v) (hy:N.ar[b]?=some y) (hst:HSt N ls av p b (v+y.2.2)) (hbn:b<na) (hd:dn.getD b false=true):Qqc N ls av s t na p c os cs (i+1) dnf hp dn bf :=
 ⟨(h.dij.put hst (.inl ⟨(h.fl b hbn).1 hd,fun e he=>h.dij.dm b e he _ ((h.dij.dr p c h.dij.at_).step hst),rfl⟩)).conv (Qkx hb hv hy),h.via,h.fl,h.bd,h.ld,h.lb,h.nt,h.c0⟩
theorem Qqc.put (hok:Qaq N)(h:Qqc N ls av s t na p c os cs i dnf hp dn bf){b:Nat}{v:Int}{y:Tri} (hb:os[i]?=some (b:Int)) (hv:cs[i]?=some v) (hy:N.ar[b]?=some y) (hst:HSt N ls av p b (v+y.2.2)) (hbn:b<na) (hd:dn.getD b false=false) :
 Qqc N ls av s t na p c os cs (i+1) dnf (Qen hp b (c+(v+y.2.2))) dn (if Qko hp b (c+(v+y.2.2)) then bf.set b (p:Int) else bf):=by
 have hdn:dnf b=none:=by
  cases e:dnf b with
  | none=>rfl
  | some x =>
   have:=(h.fl b hbn).2 (by rw [e];exact fun h=>by cases h)
   rw [hd] at this
   cases this
 obtain ⟨x,hx⟩:∃ x,x=c+(v+y.2.2):=⟨_,rfl⟩;rw [←hx];have hne:∀ r,r≠b→Qen hp b x r=hp r:=fun r hr=>by unfold Qen;rw [if_neg hr]
 have hat0:hp b=none→Qen hp b x b=some x:=fun e=>by unfold Qen;rw [if_pos rfl,e]
 have hat1:∀ z,hp b=some z→Qen hp b x b=some (if z≤x then z else x):=fun z e=>by unfold Qen;rw [if_pos rfl,e]
 have hbd:∀ q e,Qen hp b x q=some e→e≤MB+70379481595904:=fun q e hq=>by
  by_cases e1:q=b
  · subst e1
    have h1:=(hst.bd hok).2;have h2:=h.c0.2
    cases e2:hp q with
    | none=>rw [hat0 e2] at hq;cases hq;omega
    | some z =>
     rw [hat1 z e2] at hq;simp only [Option.some.injEq] at hq;have:=h.bd q z e2
     split at hq <;> omega
  · rw [hne q e1] at hq
    exact h.bd q e hq
 refine ⟨(h.dij.put hst (.inr ⟨hdn,hne,?_⟩)).conv (Qkx hb hv hy),?_,h.fl,hbd,h.ld,by split <;> simp [h.lb],h.nt,h.c0⟩
 · cases e2:hp b with
   | none=>exact .inr ⟨fun e h=>(by cases h),by rw [hat0 e2,hx]⟩
   | some z =>
    by_cases e3:z≤x
    · exact .inl ⟨z,rfl,by omega,by rw [hat1 z e2,if_pos e3]⟩
    · exact .inr ⟨fun e h=>by cases h;omega,by rw [hat1 z e2,if_neg e3,hx]⟩
 · cases e2:hp b with
   | none =>
    rw [show Qko hp b x=true by unfold Qko;rw [e2],if_pos rfl]
    exact h.via.put h.dij.at_ hdn (by rw [h.lb];exact hbn) hst hne (by rw [hat0 e2,hx])
   | some z =>
    by_cases e3:z≤x
    · rw [show Qko hp b x=false by unfold Qko;rw [e2];simp [e3]]
      have:Qen hp b x=hp:=funext fun r=>by
       by_cases e1:r=b
       · subst e1;rw [hat1 z e2,if_pos e3,e2]
       · exact hne r e1
      rw [this];exact h.via
    · rw [show Qko hp b x=true by unfold Qko;rw [e2];simp [e3],if_pos rfl]
      exact h.via.put h.dij.at_ hdn (by rw [h.lb];exact hbn) hst hne (by rw [hat1 z e2,if_neg e3,hx])
theorem Qqc.all (h:Qqc N ls av s t na p c os cs i dnf hp dn bf)(hn:NxtP N ls av p os cs)(hi:os.length≤i):Qtf N ls av s t na dnf hp dn bf :=
 ⟨h.dij.done (fun q d hq=>by
  obtain ⟨k,v,y,h1,h2,h3,h4,h5,h6⟩:=hn.all q d hq;exact ⟨k,v,y,by have:=(Zs h1).1;omega,h1,h2,h3,h4,h5,h6⟩),h.via,h.fl,h.bd,h.ld,h.lb,h.nt⟩
end
theorem Nxw.gb {mb:Nat}{w w':World}(h:Nxw mb w w'):w.grownBy w' (some mb):=⟨(h.bel 0 (Nat.zero_le _)).os,(h.bel 0 (Nat.zero_le _)).tape,(h.bel 0 (Nat.zero_le _)).output,h.size,fun k hk hne=>h.kept k (fun e=>hne (by rw [e])) hk⟩
theorem Qcc.grown {W W':World}{G G':Nat→Prop}{g n mb:Nat}{hp:Nat→Option Int}(h:Qcc W G g n hp) (hg:W.grownBy W' (some mb)) (hm:G mb) (hG:∀ b,G' b→b<W'.heap.size∧(G b∨W.heap.size≤b)):Qcc W' G' g n hp:=by
 obtain ⟨A,gc,gs,m,c,R,C,S,h1,h2⟩:=h;have ho:∀ b,b<W.heap.size→¬G b→¬G' b:=fun b h3 h4 h5=>(hG b h5).2.elim h4 (fun h6=>by omega)
 have hne:∀ b,¬G b→b≠mb:=fun b hb e=>hb (e▸hm)
 refine ⟨A,gc,gs,m,c,R,C,S,⟨h1.blk.grown hg (fun e=>hne g h1.dG.1 (by injection e with e;exact e.symm)),h1.row.far hg (.inr (fun e=>hne mb (h1.dA mb e).2.2.2 rfl)),h1.cs.grown hg (fun e=>hne gc h1.dG.2.1 (by injection e with e;exact e.symm)),h1.ss.grown hg (fun e=>hne gs h1.dG.2.2 (by injection e with e;exact e.symm)),fun b hb'=>⟨(h1.dA b hb').1,(h1.dA b hb').2.1,(h1.dA b hb').2.2.1,ho b (h1.row.lt b hb').2 (h1.dA b hb').2.2.2⟩,h1.dg,⟨ho _ h1.blk.lt h1.dG.1,ho _ h1.cs.lt h1.dG.2.1,ho _ h1.ss.lt h1.dG.2.2⟩,fun b hb'=>(hG b hb').1,h1.lr,h1.lc,h1.ls,h1.n0⟩,h2⟩
structure Qnd (W:World) (G:Nat→Prop) (qb g o:Nat) (N:Qal) (ls:List (List Int)) (s t:Nat) (CA:Option Addr) (NC cC:Nat) (cl:List Int) (Q:Option Addr) (L cq mb bb db gh na n:Nat) (f:Nat→Nat→Option Value) (bf:List Int) (dn:List Bool) (hp:Nat→Option Int):Prop where
 qr:QR (msk W G) qb g o N ls s t CA NC cC cl Q L cq mb bb na
 mq:MpQ W mb n f
 mc:MpC W G N.ar ls f
 bfB:Blk W bb 3 (Qcj bf)
 dd:Blk W db 4 (Qga dn)
 hh:Qcc W (fun b=>G b∨b=mb∨b=bb∨b=db) gh na hp
 gl:∀ b,G b→b<W.heap.size
 nb:¬G mb∧¬G bb∧¬G db∧mb≠bb∧mb≠db∧bb≠db
 nn:n≤dn.countP (fun b=>b)
section
variable {W W':World} {G:Nat→Prop} {qb g o:Nat} {N:Qal} {ls:List (List Int)} {s t:Nat} {CA:Option Addr} {NC cC:Nat} {cl:List Int} {Q:Option Addr} {L cq mb bb db gh na n:Nat} {f:Nat→Nat→Option Value} {bf:List Int} {dn:List Bool} {hp:Nat→Option Int}
theorem Qnd.below (h:Qnd W G qb g o N ls s t CA NC cC cl Q L cq mb bb db gh na n f bf dn hp)(hb:Below W.heap.size W W'):Qnd W' G qb g o N ls s t CA NC cC cl Q L cq mb bb db gh na n f bf dn hp :=
 have hle:Le (msk W G) (msk W' G):=Qbc.msk (Qbc.below hb)
 ⟨h.qr.le hle,h.mq.below hb,h.mc.le hle,h.bfB.below hb h.bfB.lt,h.dd.below hb h.dd.lt,h.hh.more hb (fun b hb'=>⟨Yu (h.hh.lt b hb') hb.size,.inl hb'⟩),fun b hb'=>Yu (h.gl b hb') hb.size,h.nb,h.nn⟩
theorem Qnd.nxt {n':Nat}{f':Nat→Nat→Option Value}(h:Qnd W G qb g o N ls s t CA NC cC cl Q L cq mb bb db gh na n f bf dn hp)(hx:Nxw mb W W')(hm:MpQ W' mb n' f') (hc:MpC W' (G2 G W W') N.ar ls f') (hn:n'≤dn.countP (fun b=>b)):Qnd W' (G2 G W W') qb g o N ls s t CA NC cC cl Q L cq mb bb db gh na n' f' bf dn hp:=by
 have hng:∀ b,b<W.heap.size→¬G b→¬G2 G W W' b:=fun b h1 h2 h3=>h3.elim h2 (fun h4=>by omega)
 have hs:=hx.size;have hml:=h.mq.lt;have hbl:=h.bfB.lt;have hdl:=h.dd.lt;refine ⟨h.qr.le (G2.le hx h.nb.1),hm,hc,h.bfB.grown hx.gb (fun e=>h.nb.2.2.2.1 (by injection e)),h.dd.grown hx.gb (fun e=>h.nb.2.2.2.2.1 (by injection e)),h.hh.grown hx.gb (.inr (.inl rfl)) (fun b hb=>?_),fun b hb=>?_,⟨hng _ hml h.nb.1,hng _ hbl h.nb.2.1,hng _ hdl h.nb.2.2.1,h.nb.2.2.2⟩,hn⟩
 · rcases hb with (h1|h1)|rfl|rfl|rfl
   · have:=h.gl b h1;exact ⟨by omega,.inl (.inl h1)⟩
   · exact ⟨h1.2,.inr h1.1⟩
   · exact ⟨by omega,.inl (.inr (.inl rfl))⟩
   · exact ⟨by omega,.inl (.inr (.inr (.inl rfl)))⟩
   · exact ⟨by omega,.inl (.inr (.inr (.inr rfl)))⟩
 · rcases hb with h1|h1
   · have:=h.gl b h1;omega
   · exact h1.2
theorem Qnd.heap {hp':Nat→Option Int}(h:Qnd W G qb g o N ls s t CA NC cC cl Q L cq mb bb db gh na n f bf dn hp) (hh:Qcc W' (fun b=>G b∨b=mb∨b=bb∨b=db) gh na hp') (ha:Aft (fun b=>G b∨b=mb∨b=bb∨b=db) W W'):Qnd W' G qb g o N ls s t CA NC cC cl Q L cq mb bb db gh na n f bf dn hp' :=
 have hle:Le (msk W G) (msk W' G):=Qbc.msk (ha.kept.mono (fun _ hb=>.inl hb))
 ⟨h.qr.le hle,h.mq.at_ (ha.kept mb (.inr (.inl rfl)) h.mq.lt),h.mc.le hle,(ha.kept bb (.inr (.inr (.inl rfl))) h.bfB.lt).trans h.bfB,(ha.kept db (.inr (.inr (.inr rfl))) h.dd.lt).trans h.dd,hh,fun b hb=>Yu (h.gl b hb) ha.size,h.nb,h.nn⟩
theorem Qjx:∀ (l:List Bool)(p:Nat),l.countP (fun b=>b)≤(l.set p true).countP (fun b=>b)
 | [],p=>by simp
 | b::l,0=>by cases b <;> simp
 | b::l,p+1=>by
  have:=Qjx l p
  cases b <;> simp <;> omega
theorem Qnd.done (h:Qnd W G qb g o N ls s t CA NC cC cl Q L cq mb bb db gh na n f bf dn hp)(p:Nat):Qnd (W.setCell ⟨db,p,none⟩ (.bool true)) G qb g o N ls s t CA NC cC cl Q L cq mb bb db gh na n f bf (dn.set p true) hp :=
 have hle:Le (msk W G) (msk (W.setCell ⟨db,p,none⟩ (.bool true)) G):=Qbc.msk (Qbc.set _ _ _ _ h.nb.2.2.1)
 ⟨h.qr.le hle,h.mq.set (fun e=>h.nb.2.2.2.2.1 e.symm) _,h.mc.le hle,h.bfB.far_ h.nb.2.2.2.2.2 _,h.dd.setB rfl,h.hh.set (.inr (.inr (.inr rfl))) _,fun b hb=>by simpa [World.setCell] using h.gl b hb,h.nb,Yx h.nn (Qjx _ _)⟩
theorem Qnd.bef (h:Qnd W G qb g o N ls s t CA NC cC cl Q L cq mb bb db gh na n f bf dn hp)(b p:Nat):Qnd (W.setCell ⟨bb,b,none⟩ (.int .i64 (p:Int))) G qb g o N ls s t CA NC cC cl Q L cq mb bb db gh na n f (bf.set b (p:Int)) dn hp :=
 have hle:Le (msk W G) (msk (W.setCell ⟨bb,b,none⟩ (.int .i64 (p:Int))) G):=Qbc.msk (Qbc.set _ _ _ _ h.nb.2.1)
 ⟨h.qr.le hle,h.mq.set (fun e=>h.nb.2.2.2.1 e.symm) _,h.mc.le hle,h.bfB.setI rfl,h.dd.far_ (fun e=>h.nb.2.2.2.2.2 e.symm) _,h.hh.set (.inr (.inr (.inl rfl))) _,fun b hb=>by simpa [World.setCell] using h.gl b hb,h.nb,h.nn⟩
end
structure OD where
 g:Nat
 o:Nat
 N:Qal
 ls:List (List Int)
 CA:Option Addr
 NC:Nat
 cC:Nat
 cl:List Int
 Q:Option Addr
 L:Nat
 cq:Nat
 qb:Nat
 mb:Nat
 hb:Nat
 bb:Nat
 db:Nat
 na:Nat
structure OdOk (E:OD):Prop where
 ok:Qaq E.N
 hP:Qba E.N.vs.length E.ls
 hA:Qcp E.N E.ls E.cl
 cc:E.NC≤E.cC∧E.cC≤9223372036854775807
 sm:Qby (gatesOf E.N.ar E.ls)≤1000000000
 na:E.na=E.N.ar.length
def Qco (E:OD)(R Lp:Int):Array Value:=#[.pointer (some ⟨E.g,0,none⟩),.pointer (some ⟨E.o,0,none⟩),.slice E.CA E.NC E.cC,.slice E.Q E.L E.cq,.map (some E.mb),.pointer (some ⟨E.hb,0,none⟩),.slice (some ⟨E.bb,0,none⟩) E.na E.na,.slice (some ⟨E.db,0,none⟩) E.na E.na,.int .i64 R,.int .i64 Lp]
structure OpW (W:World) (G X:Nat→Prop) (E:OD) (n:Nat) (f:Nat→Nat→Option Value) (bf dl:List Int) (hp:Nat→Option Int) (R Lp:Int):Prop where
 gr:Qep (msk W G) E.g E.N
 ov:Qfa (msk W G) E.o E.N.ar E.ls
 part:RdT (msk W G) E.Q E.L E.ls
 costs:RdI (msk W G) E.CA E.NC E.cl
 blk:Blk W E.qb 162 (Qco E R Lp)
 mq:MpQ W E.mb n f
 mc:MpC W G E.N.ar E.ls f
 bfB:Blk W E.bb 3 (Qcj bf)
 ddB:Blk W E.db 3 (Qcj dl)
 hh:Qcc W (fun b=>(G b∨X b)∨b=E.mb∨b=E.bb∨b=E.db∨b=E.qb) E.hb E.na hp
 gl:∀ b,G b∨X b→b<W.heap.size
 nG:∀ b,G b∨X b→b≠E.mb∧b≠E.bb∧b≠E.db∧b≠E.qb
 ne:E.mb≠E.bb∧E.mb≠E.db∧E.mb≠E.qb∧E.bb≠E.db∧E.bb≠E.qb∧E.db≠E.qb
section
variable {W W':World} {G X:Nat→Prop} {E:OD} {n:Nat} {f:Nat→Nat→Option Value} {bf dl:List Int} {hp:Nat→Option Int} {R Lp:Int}
theorem Qtw (E:OD)(R Lp:Int):(Qco E R Lp)[0]?=some (.pointer (some ⟨E.g,0,none⟩))∧(Qco E R Lp)[1]?=some (.pointer (some ⟨E.o,0,none⟩))∧(Qco E R Lp)[2]?=some (.slice E.CA E.NC E.cC)∧(Qco E R Lp)[3]?=some (.slice E.Q E.L E.cq)∧(Qco E R Lp)[4]?=some (.map (some E.mb)) ∧
 (Qco E R Lp)[5]?=some (.pointer (some ⟨E.hb,0,none⟩))∧(Qco E R Lp)[6]?=some (.slice (some ⟨E.bb,0,none⟩) E.na E.na)∧(Qco E R Lp)[7]?=some (.slice (some ⟨E.db,0,none⟩) E.na E.na)∧(Qco E R Lp)[8]?=some (.int .i64 R)∧(Qco E R Lp)[9]?=some (.int .i64 Lp):=⟨rfl,rfl,rfl,rfl,rfl,rfl,rfl,rfl,rfl,rfl⟩
theorem OpW.at_ (h:OpW W G X E n f bf dl hp R Lp){i:Nat}{v:Value} (hv:(Qco E R Lp)[i]?=some v):W.cell? ⟨E.qb,i,none⟩=some v:=by rw [h.blk.cell];exact hv
theorem OpW.c0 (h:OpW W G X E n f bf dl hp R Lp):W.cell? ⟨E.qb,0,none⟩=some (.pointer (some ⟨E.g,0,none⟩)):=h.at_ rfl
theorem OpW.c5 (h:OpW W G X E n f bf dl hp R Lp):W.cell? ⟨E.qb,5,none⟩=some (.pointer (some ⟨E.hb,0,none⟩)):=h.at_ rfl
theorem OpW.c6 (h:OpW W G X E n f bf dl hp R Lp):W.cell? ⟨E.qb,6,none⟩=some (.slice (some ⟨E.bb,0,none⟩) E.na E.na):=h.at_ rfl
theorem OpW.c7 (h:OpW W G X E n f bf dl hp R Lp):W.cell? ⟨E.qb,7,none⟩=some (.slice (some ⟨E.db,0,none⟩) E.na E.na):=h.at_ rfl
theorem OpW.c8 (h:OpW W G X E n f bf dl hp R Lp):W.cell? ⟨E.qb,8,none⟩=some (.int .i64 R):=h.at_ rfl
theorem OpW.c9 (h:OpW W G X E n f bf dl hp R Lp):W.cell? ⟨E.qb,9,none⟩=some (.int .i64 Lp):=h.at_ rfl
theorem OpW.rd (h:OpW W G X E n f bf dl hp R Lp):OR (msk W (fun b=>G b∨b=E.qb)) E.qb E.g E.o E.N E.ls E.CA E.NC E.cC E.cl E.Q E.L E.cq E.mb:=by
 have hle:Le (msk W G) (msk W (fun b=>G b∨b=E.qb)):=Qbt (fun _ hb=>.inl hb);have hc:∀ {i:Nat} {v:Value},(Qco E R Lp)[i]?=some v→(msk W (fun b=>G b∨b=E.qb)).cell? ⟨E.qb,i,none⟩=some v:=fun hv=>Qej (h.at_ hv) (.inr rfl)
 obtain ⟨c0,c1,c2,c3,c4,_⟩:=Qtw E R Lp;exact ⟨h.gr.le hle,h.ov.le hle,h.part.le hle,h.costs.le hle,hc c0,hc c1,hc c2,hc c3,hc c4⟩
theorem OpW.below (h:OpW W G X E n f bf dl hp R Lp)(hb:Below W.heap.size W W'):OpW W' G X E n f bf dl hp R Lp :=
 have hle:Le (msk W G) (msk W' G):=Qbc.msk (Qbc.below hb)
 ⟨h.gr.le hle,h.ov.le hle,h.part.le hle,h.costs.le hle,h.blk.below hb h.blk.lt,h.mq.below hb,h.mc.le hle,h.bfB.below hb h.bfB.lt,h.ddB.below hb h.ddB.lt,h.hh.more hb (fun b hb'=>⟨Yu (h.hh.lt b hb') hb.size,.inl hb'⟩),fun b hb'=>Yu (h.gl b hb') hb.size,h.nG,h.ne⟩
theorem OpW.holds {X':Nat→Prop}(h:OpW W G X E n f bf dl hp R Lp)(hb:Below W.heap.size W W') (hX:∀ b,X' b→X b∨(W.heap.size≤b∧b<W'.heap.size)):OpW W' G X' E n f bf dl hp R Lp:=by
 have g:=h.below hb;have hm:=h.mq.lt;have hbl:=h.bfB.lt;have hd:=h.ddB.lt;have hq:=h.blk.lt;have hs:=hb.size;refine ⟨g.gr,g.ov,g.part,g.costs,g.blk,g.mq,g.mc,g.bfB,g.ddB,h.hh.more hb (fun b hb'=>?_),fun b hb'=>?_,fun b hb'=>?_,h.ne⟩
 · rcases hb' with (h1|h1)|h1|h1|h1|h1
   · exact ⟨g.gl b (.inl h1),.inl (.inl (.inl h1))⟩
   · rcases hX b h1 with h2|h2
     · exact ⟨g.gl b (.inr h2),.inl (.inl (.inr h2))⟩
     · exact ⟨h2.2,.inr h2.1⟩
   · exact ⟨by omega,.inl (.inr (.inl h1))⟩
   · exact ⟨by omega,.inl (.inr (.inr (.inl h1)))⟩
   · exact ⟨by omega,.inl (.inr (.inr (.inr (.inl h1))))⟩
   · exact ⟨by omega,.inl (.inr (.inr (.inr (.inr h1))))⟩
 · rcases hb' with h1|h1
   · exact g.gl b (.inl h1)
   · rcases hX b h1 with h2|h2
     · exact g.gl b (.inr h2)
     · exact h2.2
 · rcases hb' with h1|h1
   · exact h.nG b (.inl h1)
   · rcases hX b h1 with h2|h2
     · exact h.nG b (.inr h2)
     · exact ⟨by omega,by omega,by omega,by omega⟩
theorem OpW.nxt {n':Nat}{f':Nat→Nat→Option Value}(h:OpW W G X E n f bf dl hp R Lp)(hx:Nxw E.mb W W')(hm:MpQ W' E.mb n' f') (hc:MpC W' (G2 G W W') E.N.ar E.ls f'):OpW W' (G2 G W W') X E n' f' bf dl hp R Lp:=by
 have hs:=hx.size;have hml:=h.mq.lt;have hbl:=h.bfB.lt;have hdl:=h.ddB.lt;have hql:=h.blk.lt;have hle:=G2.le (G:=G) hx (fun hg=>(h.nG _ (.inl hg)).1 rfl);refine ⟨h.gr.le hle,h.ov.le hle,h.part.le hle,h.costs.le hle,h.blk.grown hx.gb (fun e=>h.ne.2.2.1 (by injection e)),hm,hc,h.bfB.grown hx.gb (fun e=>h.ne.1 (by injection e)),h.ddB.grown hx.gb (fun e=>h.ne.2.1 (by injection e)),h.hh.grown hx.gb (.inr (.inl rfl)) (fun b hb=>?_),fun b hb=>?_,fun b hb=>?_,h.ne⟩
 · rcases hb with ((h1|h1)|h1)|h1|h1|h1|h1
   · have:=h.gl b (.inl h1);exact ⟨by omega,.inl (.inl (.inl h1))⟩
   · exact ⟨h1.2,.inr h1.1⟩
   · have:=h.gl b (.inr h1);exact ⟨by omega,.inl (.inl (.inr h1))⟩
   · exact ⟨by omega,.inl (.inr (.inl h1))⟩
   · exact ⟨by omega,.inl (.inr (.inr (.inl h1)))⟩
   · exact ⟨by omega,.inl (.inr (.inr (.inr (.inl h1))))⟩
   · exact ⟨by omega,.inl (.inr (.inr (.inr (.inr h1))))⟩
 · rcases hb with (h1|h1)|h1
   · have:=h.gl b (.inl h1);omega
   · exact h1.2
   · have:=h.gl b (.inr h1);omega
 · rcases hb with (h1|h1)|h1
   · exact h.nG b (.inl h1)
   · exact ⟨by omega,by omega,by omega,by omega⟩
   · exact h.nG b (.inr h1)
theorem OpW.heap {hp':Nat→Option Int}(h:OpW W G X E n f bf dl hp R Lp) (hh:Qcc W' (fun b=>(G b∨X b)∨b=E.mb∨b=E.bb∨b=E.db∨b=E.qb) E.hb E.na hp') (ha:Aft (fun b=>(G b∨X b)∨b=E.mb∨b=E.bb∨b=E.db∨b=E.qb) W W'):OpW W' G X E n f bf dl hp' R Lp :=
 have hle:Le (msk W G) (msk W' G):=Qbc.msk (ha.kept.mono (fun _ hb=>.inl (.inl hb)))
 ⟨h.gr.le hle,h.ov.le hle,h.part.le hle,h.costs.le hle,(ha.kept E.qb (.inr (.inr (.inr (.inr rfl)))) h.blk.lt).trans h.blk,h.mq.at_ (ha.kept E.mb (.inr (.inl rfl)) h.mq.lt),h.mc.le hle,(ha.kept E.bb (.inr (.inr (.inl rfl))) h.bfB.lt).trans h.bfB,(ha.kept E.db (.inr (.inr (.inr (.inl rfl)))) h.ddB.lt).trans h.ddB,hh,fun b hb=>Yu (h.gl b hb) ha.size,h.nG,h.ne⟩
theorem OpW.le_set (h:OpW W G X E n f bf dl hp R Lp){k:Nat}(hk:k=E.bb∨k=E.db∨k=E.qb)(i:Nat)(v:Value):Le (msk W G) (msk (W.setCell ⟨k,i,none⟩ v) G) :=
 Qbc.msk (Qbc.set _ _ _ _ (fun hg=>by
  have:=h.nG k (.inl hg)
  rcases hk with e|e|e
  · exact this.2.1 e
  · exact this.2.2.1 e
  · exact this.2.2.2 e))
theorem OpW.done (h:OpW W G X E n f bf dl hp R Lp)(p:Nat)(x:Int):OpW (W.setCell ⟨E.db,p,none⟩ (.int .i64 x)) G X E n f bf (dl.set p x) hp R Lp :=
 have hle:=h.le_set (.inr (.inl rfl)) p (.int .i64 x)
 ⟨h.gr.le hle,h.ov.le hle,h.part.le hle,h.costs.le hle,h.blk.far_ (fun e=>h.ne.2.2.2.2.2 e.symm) _,h.mq.set (fun e=>h.ne.2.1 e.symm) _,h.mc.le hle,h.bfB.far_ h.ne.2.2.2.1 _,h.ddB.setI rfl,h.hh.set (.inr (.inr (.inr (.inl rfl)))) _,fun b hb=>by simpa [World.setCell] using h.gl b hb,h.nG,h.ne⟩
theorem OpW.bef (h:OpW W G X E n f bf dl hp R Lp)(b:Nat)(x:Int):OpW (W.setCell ⟨E.bb,b,none⟩ (.int .i64 x)) G X E n f (bf.set b x) dl hp R Lp :=
 have hle:=h.le_set (.inl rfl) b (.int .i64 x)
 ⟨h.gr.le hle,h.ov.le hle,h.part.le hle,h.costs.le hle,h.blk.far_ (fun e=>h.ne.2.2.2.2.1 e.symm) _,h.mq.set (fun e=>h.ne.1 e.symm) _,h.mc.le hle,h.bfB.setI rfl,h.ddB.far_ (fun e=>h.ne.2.2.2.1 e.symm) _,h.hh.set (.inr (.inr (.inl rfl))) _,fun b hb=>by simpa [World.setCell] using h.gl b hb,h.nG,h.ne⟩
theorem OpW.own (h:OpW W G X E n f bf dl hp R Lp)(i:Nat)(v:Value){R' Lp':Int} (hc:(Qco E R Lp).setIfInBounds i v=Qco E R' Lp'):OpW (W.setCell ⟨E.qb,i,none⟩ v) G X E n f bf dl hp R' Lp' :=
 have hle:=h.le_set (.inr (.inr rfl)) i v
 ⟨h.gr.le hle,h.ov.le hle,h.part.le hle,h.costs.le hle,by rw [←hc];exact h.blk.set_ i v,h.mq.set (fun e=>h.ne.2.2.1 e.symm) _,h.mc.le hle,h.bfB.far_ h.ne.2.2.2.2.1 _,h.ddB.far_ h.ne.2.2.2.2.2 _,h.hh.set (.inr (.inr (.inr (.inr rfl)))) _,fun b hb=>by simpa [World.setCell] using h.gl b hb,h.nG,h.ne⟩
theorem OpW.rnd (h:OpW W G X E n f bf dl hp R Lp)(R':Int):OpW (W.setCell ⟨E.qb,8,none⟩ (.int .i64 R')) G X E n f bf dl hp R' Lp:=h.own 8 _ rfl
theorem OpW.lps (h:OpW W G X E n f bf dl hp R Lp)(L':Int):OpW (W.setCell ⟨E.qb,9,none⟩ (.int .i64 L')) G X E n f bf dl hp R L':=h.own 9 _ rfl
theorem OpW.grow {X':Nat→Prop}{r:Option Nat}(h:OpW W G X E n f bf dl hp R Lp)(hg:W.grownBy W' r)(hr:∀ b,r=some b→X b∧¬G b) (hX:∀ b,X' b→X b∨(W.heap.size≤b∧b<W'.heap.size)):OpW W' G X' E n f bf dl hp R Lp:=by
 cases r with
 | none=>exact h.holds ⟨hg.os,hg.tape,hg.output,hg.size,fun k hk=>hg.block k hk (by simp)⟩ hX
 | some c =>
  obtain ⟨hc,hcg⟩:=hr c rfl;have hn:=h.nG c (.inr hc);have hs:=hg.size;have hm:=h.mq.lt;have hbl:=h.bfB.lt;have hd:=h.ddB.lt;have hq:=h.blk.lt;have hne:∀ b,b≠c→some c≠some b:=fun b h1 e=>h1 (by injection e with e;exact e.symm)
  have hle:Le (msk W G) (msk W' G):=Qbc.msk (Qbc.grown hg (fun b hb e=>hcg (by cases e;exact hb)))
  refine ⟨h.gr.le hle,h.ov.le hle,h.part.le hle,h.costs.le hle,h.blk.grown hg (hne _ hn.2.2.2.symm),h.mq.grown hg (fun e=>hn.1 (by injection e)),h.mc.le hle,h.bfB.grown hg (hne _ hn.2.1.symm),h.ddB.grown hg (hne _ hn.2.2.1.symm),h.hh.grown hg (.inl (.inr hc)) (fun b hb=>?_),fun b hb=>?_,fun b hb=>?_,h.ne⟩
  · rcases hb with (h1|h1)|h1|h1|h1|h1
    · have:=h.gl b (.inl h1);exact ⟨by omega,.inl (.inl (.inl h1))⟩
    · rcases hX b h1 with h2|h2
      · have:=h.gl b (.inr h2);exact ⟨by omega,.inl (.inl (.inr h2))⟩
      · exact ⟨h2.2,.inr h2.1⟩
    · exact ⟨by omega,.inl (.inr (.inl h1))⟩
    · exact ⟨by omega,.inl (.inr (.inr (.inl h1)))⟩
    · exact ⟨by omega,.inl (.inr (.inr (.inr (.inl h1))))⟩
    · exact ⟨by omega,.inl (.inr (.inr (.inr (.inr h1))))⟩
  · rcases hb with h1|h1
    · have:=h.gl b (.inl h1);omega
    · rcases hX b h1 with h2|h2
      · have:=h.gl b (.inr h2);omega
      · exact h2.2
  · rcases hb with h1|h1
    · exact h.nG b (.inl h1)
    · rcases hX b h1 with h2|h2
      · exact h.nG b (.inr h2)
      · exact ⟨by omega,by omega,by omega,by omega⟩
end
theorem Aft.less {G G':Nat→Prop}{W W':World}(h:Aft G' W W')(hs:∀ b,G b→G' b):Aft G W W':=⟨h.kept.mono hs,h.size,fun B hB=>h.bel B (fun b hb=>hs b (hB b hb))⟩
theorem Own.keepK {w w':World}{B s n c:Nat}{e:TypeId}{A:Option Addr}{xs:List Value}{G:Nat→Prop}(h:Own w B e s A n c xs)(hk:Qbc G w w')(hG:∀ b,Qac A=some b→G b):Own w' B e s A n c xs:=by
 refine ⟨h.1,?_⟩
 rcases h.2 with hn|⟨g,cap,cur,e1,hb,hgg,rest⟩
 · exact .inl hn
 · refine .inr ⟨g,cap,cur,e1,hb,?_,rest⟩
   rw [hk g (hG g (by cases e1;rfl)) (Array.getElem?_eq_some_iff.1 hgg).1]
   exact hgg
end Go.Proofs.YtdheeddnkdhfeaaGreatDoor
namespace Go.Proofs.YtdheeddnkdhfeaaGreatDoor
open Go.RowKit Go.Sort Go.Shelf Go.Proofs.Tryz
attribute [local go_sem ↓] Go.wp_at_zero Go.wp_at_succ
abbrev Qsi:=Nat×Nat×Nat
def hpc (x:Qsi):List Value:=[.int .i64 (x.1:Int),.int .i64 (x.2.1:Int),.int .i64 (x.2.2:Int)]
def Qus (l:List Qsi):List Value:=l.flatMap hpc
theorem Qvf (x:Qsi):∀ u∈hpc x,u.oneCell'=true:=by
 intro u hu;simp only [hpc,List.mem_cons,List.not_mem_nil,or_false] at hu
 rcases hu with rfl|rfl|rfl <;> rfl
theorem Qiu (l m:List Qsi):Qus (l ++m)=Qus l ++Qus m:=by simp [Qus]
theorem Qiv (x:Qsi):Qus [x]=hpc x:=by simp [Qus]
theorem hpcs_len (l:List Qsi):(Qus l).length=l.length*3:=by
 induction l with
 | nil=>rfl
 | cons x l ih=>rw [show x::l=[x] ++l from rfl,Qiu,Yp,ih,Qiv,Yp];simp [hpc];omega
theorem Qvb:∀ (l:List Qsi)(k:Nat)(e:Qsi),l[k]?=some e→∀ q,q<3→(Qus l)[k*3+q]?=(hpc e)[q]?
 | [],k,e,h=>by simp at h
 | x::l,0,e,h=>by
  intro q hq;simp at h;subst h;rw [show x::l=[x] ++l from rfl,Qiu,Qiv,Yc (by simp [hpc];omega),Nat.zero_mul,Yz]
 | x::l,k+1,e,h=>by
  intro q hq;have:=Qvb l k e (by simpa using h) q hq;rw [show x::l=[x] ++l from rfl,Qiu,Qiv,Yb (by simp [hpc];omega)]
  rw [←this]
  congr 1
  simp [hpc];omega
def RdH (w:World)(A:Option Addr)(n:Nat)(L:List Qsi):Prop :=
 L.length=n∧∀ i x,L[i]?=some x→∃ b o,A=some ⟨b,o,none⟩∧w.cell? ⟨b,o+i*3,none⟩=some (.int .i64 (x.1:Int))∧w.cell? ⟨b,o+i*3+1,none⟩=some (.int .i64 (x.2.1:Int))∧w.cell? ⟨b,o+i*3+2,none⟩=some (.int .i64 (x.2.2:Int))
theorem RdH.le {w w':World}{A:Option Addr}{n:Nat}{L:List Qsi}(h:RdH w A n L)(hl:Le w w'):RdH w' A n L :=
 ⟨h.1,fun i x hx=>by
  obtain ⟨b,o,e,h1,h2,h3⟩:=h.2 i x hx;exact ⟨b,o,e,hl _ _ h1,hl _ _ h2,hl _ _ h3⟩⟩
theorem isAggHop (w:World):(isAgg 100).run prog w=.ok true w:=by kernel_rfl
theorem Qvs (w:World):(Go.sizeOf 100).run prog w=.ok 3 w:=by kernel_rfl
theorem infoHop:(Tryz.prog.info? 100).map (fun i=>(i.zero,i.size,i.bytes))=some (some (.agg #[.int .i64 0,.int .i64 0,.int .i64 0]),3,24):=by kernel_rfl
theorem rev_ok (A:Option Addr)(n c B:Nat)(L:List Qsi)(w:World) (hO:Own w B 100 3 A n c (Qus L)) (hB:B≤w.heap.size) (hbig:n<4611686018427387904) :
 Calls prog 152 #[.slice A n c] w fun e w'=>e=.returned (.tuple #[])∧RdH w' A n L.reverse∧Below B w w':=by
 have hlen:L.length=n:=by
  have:=hO.1;rw [hpcs_len] at this;omega
 rcases Nat.eq_zero_or_pos n with h0|h0
 · subst h0
   obtain rfl:L=[]:=List.eq_nil_of_length_eq_zero hlen;have hcon:=@AnyQ.slices_Reverse_empty _ _ revHop A c w;refine Calls.mono (show Calls prog 152 _ _ _ from hcon) ?_
   rintro e w' ⟨rfl,rfl⟩;exact ⟨rfl,⟨rfl,fun i x hx=>by simp at hx⟩,Zr _ _⟩
 · obtain ⟨g,cur,rfl,hg,hblk,hcur⟩:=hO.block h0
   have hds:L.toArray.size=n:=by simpa using hlen
   have hget:∀ i (hi:i<n),L.toArray[i]! = L[i]:=fun i hi=>by
    rw [getElem!_pos L.toArray i (by omega)];simp
   have hrd:=hO.rds
   have hH:HoldsK hpc 3 w g 0 L.toArray:=fun j hj=>by
    have hj':j<n*3:=by rw [size_flatK,hds] at hj;exact hj
    rw [Yz];refine ⟨?_,hblk.frozen j⟩;rw [get_flatK _ _ _ _ (by rw [hds];exact hj'),hget (j / 3) (by omega)];have h1:=Qvb L (j / 3) L[j / 3] (Zg (by omega)) (j % 3) (by omega);rw [show j / 3*3+j % 3=j by omega] at h1
    obtain ⟨v,hv⟩:∃ v,(hpc L[j / 3])[j % 3]?=some v:=⟨_,Zg (show j % 3<(hpc L[j / 3]).length from Nat.mod_lt j (by omega))⟩
    rw [hv] at h1;obtain ⟨b,o,e,hc⟩:=hrd.2 j v h1
    cases e
    rw [Yz] at hc;rw [hc]
    have:(hpc L[j / 3])[j % 3]! = v:=by
     rw [getElem!_def,hv]
    rw [this]
    rfl
   have hcon:=AnyQ.slices_Reverse revHop 3 isAggHop Qvs hpc (fun _=>rfl) (fun x v hv=>Qvf x v hv) g 0 c L.toArray w hH (by omega);rw [hds] at hcon;refine Calls.mono (show Calls prog 152 _ _ _ from hcon) ?_
   rintro e w' ⟨rfl,q,rfl⟩;have hH':=holdsK_putRowK hpc 3 (Sort.ahead w q) g 0 L.toArray L.toArray.reverse hH (by simp);refine ⟨rfl,⟨by simpa using hlen,fun i x hx=>?_⟩,?_⟩
   · have hi:i<L.toArray.reverse.size:=by have:=(Zs hx).1;simpa using this
     have hx2:L.toArray.reverse[i]! = x:=by
      rw [getElem!_pos L.toArray.reverse i hi];have:=(Zs hx).2
      simpa using this
     have h1:=(HoldsK.cell hH' hi (show 0<3 by omega)).1
     have h2:=(HoldsK.cell hH' hi (show 1<3 by omega)).1
     have h3:=(HoldsK.cell hH' hi (show 2<3 by omega)).1
     rw [hx2] at h1 h2 h3;exact ⟨g,0,rfl,h1,h2,h3⟩
   · have hgr:w.grownBy (putRowK hpc 3 (Sort.ahead w q) g 0 L.toArray.reverse) (some g):=by
      refine ⟨rfl,rfl,rfl,by simp [putRowK,putRow,mapBlock,Sort.ahead],fun k hk hne=>?_⟩;have hne':k≠g:=fun e=>hne (by rw [e])
      simp only [putRowK,putRow,mapBlock,Array.getElem?_modify];rw [if_neg (by omega)]
      rfl
     exact (Zr B w).grown hgr hB fun k hk=>by cases hk;exact hg
theorem HSt.ar {N:Qal} {ls:List (List Int)} {av:List Int} {p q:Nat} {d:Int} (h:HSt N ls av p q d):∃ x,N.ar[q]?=some x:=by
 rcases h with ⟨_,y,hy,_⟩|⟨j,l,y,z,v,_,_,_,hz,_⟩
 · exact ⟨y,hy⟩
 · exact ⟨z,hz⟩
theorem Via.ar {N:Qal} {ls:List (List Int)} {av:List Int} {s q:Nat} {bf:List Int} {dn:Nat→Option Int} {c:Int} {hs:List (Nat×Nat)} (h:Via N ls av s bf dn q c hs) (hs0:∃ x,N.ar[s]?=some x):∃ x,N.ar[q]?=some x:=by
 cases h with
 | start=>exact hs0
 | step _ _ _ _ h5=>exact h5.ar
noncomputable def Qry (N:Qal) (ls:List (List Int)) (av:List Int) (p:Nat×Nat):Qsi:=(Qgp ls (toV N p.1) av,p.1,p.2)
set_option maxRecDepth 20000 in
set_option maxHeartbeats 2000000 in
theorem hops_ok (w:World)(qb g o:Nat)(N:Qal) (ls:List (List Int)) (s t:Nat) (CA:Option Addr) (NC cC:Nat) (cl:List Int) (Q:Option Addr) (L cq mb bb na:Nat) (bf:List Int) (dn:Nat→Option Int) (c0:Int) (hs:List (Nat×Nat)) (xs xt:Tri) (h:QR w qb g o N ls s t CA NC cC cl Q L cq mb bb na) (hok:Qaq N) (hP:Qba N.vs.length ls) (hxs:N.ar[s]?=some xs) (hxt:N.ar[t]?=some xt)
 (hB:Blk w bb 3 (Qcj bf)) (hlb:bf.length=na) (hna:na=N.ar.length) (hv:Via N ls [toV N s,frV N t] s bf dn t c0 hs) (hl:hs.length≤16384) :
 Calls prog 103 #[.pointer (some ⟨qb,0,none⟩)] w fun e w'=>(∃ A n c,e=.returned (.slice A n c)∧RdH w' A n (hs.map (Qry N ls [toV N s,frV N t]))∧n≤16384∧∀ b,Qac A=some b→w.heap.size≤b)∧Below w.heap.size w w':=by
 obtain ⟨av,hav⟩:∃ av,av=[toV N s,frV N t]:=⟨_,rfl⟩;rw [←hav] at hv ⊢;have HQ:=Zh (fun V (hV:Below w.heap.size w V)=>h.below hV)
 have HLV:=Zh (show ∀ V,Below w.heap.size w V→∀ (p:Nat) (x:Tri),N.ar[p]?=some x→Calls prog 105 #[.pointer (some ⟨qb,0,none⟩),.int .i64 p] V fun e w'=>e=.returned (.int .i64 ((Qgp ls (toV N p) av:Nat):Int))∧Below V.heap.size V w' from fun V hV p x hx=>by
  rw [hav];exact Qnw V qb g o N ls s t CA NC cC cl Q L cq mb bb na p x xs xt (h.below hV) hok hP hx hxs hxt)
 have HB:=Zh hB;have HV:=Zh hv;have HLB:=Zh hlb;have HNA:=Zh hna;have HL:=Zh hl;have HS0:=Zh (show ∃ x,N.ar[s]?=some x from ⟨_,hxs⟩)
 have q4:=h.q4;have HLA:=Zh hok.la;clear h hok hP hxs hxt hB hlb hna hv hl
 go_enter func103,ntmps103
 go_wp2_with fail
 go_loopw [3,4] (fun ul ub W=>∃ (q:Nat) (cq:Int) (h1:List (Nat×Nat)) (A:Option Addr) (n c:Nat) (M:List Qsi),ub=.int .i64 q∧ul=.slice A n c∧Via N ls av s bf dn q cq h1∧hs.map (Qry N ls av)=h1.map (Qry N ls av) ++M.reverse∧n=M.length∧Own W w.heap.size 100 3 A n c (Qus M)∧Below w.heap.size w W) (fun _ ub _=>Qnx N ls av s bf dn (intOf ub).toNat)
 case atStart=>exact ⟨t,c0,hs,none,0,0,[],rfl,rfl,HV.out,by simp,rfl,Own.nil _ _ _ _,Zr _ _⟩
 case round =>
  obtain ⟨q,cq,h1,A,n,c,M,rfl,rfl,hv,he,hn,ho,hb⟩:=hrel;have HO:=Zh ho;have HBW:=Zh hb;have HE:=Zh he;have HN:=Zh hn
  have hnl:n≤16384:=by
   have:=congrArg List.length he;rw [List.length_map,Yp,List.length_map,List.length_reverse] at this;have:=HL.out;omega
  have q3:=(HQ.out wr hb).q3;have q4:=(HQ.out wr hb).q4;have q7:=(HQ.out wr hb).q7
  by_cases hqs:q=s
  · subst hqs
    have HM:=Zh (show hs.map (Qry N ls av)=M.reverse from by
     cases hv with
     | start=>simpa using he
     | step _ _ h3 _ _=>exact absurd rfl h3)
    have HRV:=Zh (rev_ok A n c w.heap.size M wr ho hb.size (by omega));clear hv he ho hb hn q4 q7
    go_wp2_with fail
    with_reducible refine HRV.out.mono ?_
    rintro e w2 ⟨rfl,hr,hb2⟩;have HR:=Zh hr;have HB2:=Zh (HBW.out.trans hb2);clear hr hb2
    go_wp2_with fail
    go_ret
    exact ⟨⟨A,n,c,rfl,by rw [HM.out];exact HR.out,hnl,fun b hb=>(HO.out.lt b hb).1⟩,HB2.out⟩
  · obtain ⟨p,h2,cp,d,hv2,hh1,hbq,hst⟩:∃ p h2 cp d,Via N ls av s bf dn p cp h2∧h1=h2 ++[(p,q)]∧bf[q]?=some ((p:Nat):Int)∧HSt N ls av p q d:=by
     cases hv with
     | start=>exact absurd rfl hqs
     | step h1 h2 h3 h4 h5=>exact ⟨_,_,_,_,h1,rfl,h4,h5⟩
    have HME:=Zh (show Qnx N ls av s bf dn p<Qnx N ls av s bf dn q by rw [Qns hv,Qns hv2,hh1,Yp,List.length_singleton];omega)
    have HV2:=Zh hv2;have HE2:=Zh (show hs.map (Qry N ls av)=h2.map (Qry N ls av) ++(M ++[Qry N ls av (p,q)]).reverse by rw [he,hh1];simp)
    obtain ⟨xp,hxp⟩:=hv2.ar HS0.out;have HLVp:=Zh (HLV.out wr hb p xp hxp);have hql:=(Zs hbq).1;have hqn:(q:Int)<(na:Int):=by have:=HLB.out;omega
    have hq0:(0:Int)≤(q:Int):=by omega
    have hne:¬(q:Int)=(s:Int):=by omega
    have k7:=(HB.out.below hb HB.out.lt).cellI hbq;obtain ⟨lv,hlv⟩:∃ lv,lv=Qgp ls (toV N p) av:=⟨_,rfl⟩;rw [←hlv] at HLVp;have HVV:=Zh (show Qry N ls av (p,q)=(lv,p,q) by rw [hlv];rfl)
    have HBQ:=Zh hbq;clear hv he ho hb hn hv2 hh1 hst hbq hxp hlv
    go_wp2_with fail
    with_reducible refine HLVp.out.mono ?_
    rintro e w2 ⟨rfl,hb2⟩;obtain ⟨W2,hW2⟩:∃ W2,W2=w2.alloc (.cells #[.int .i64 (lv:Nat),.int .i64 (p:Nat),.int .i64 (q:Nat)] 100):=⟨_,rfl⟩;have hbW:Below wr.heap.size wr W2:=by rw [hW2];exact hb2.alloc hb2.size _
    have hrdW:Rds W2 3 (some ⟨w2.heap.size,0,none⟩) 1 (Qus [(lv,p,q)]):=by rw [hW2];exact (Blk.new w2 100 #[.int .i64 (lv:Nat),.int .i64 (p:Nat),.int .i64 (q:Nat)]).rds rfl
    have hownW:=HO.out.below hbW;have hszW:w.heap.size≤W2.heap.size:=Yx HBW.out.size hbW.size;have HBW2:=Zh (Zb HBW.out hbW);have hone:∀ u∈Qus [(lv,p,q)],u.oneCell'=true:=by rw [Qiv];exact Qvf _
    have HW2:=Zh hW2;clear hW2 hb2 hbW k7 q3 q4 q7
    go_wp2_with (at_builtin;rw [←HW2.out];with_reducible refine Qao rfl (.tmp 30) (.tmp 37) 89 rfl 100 _ 3 24 infoHop underlying89 rfl (by omega) rfl rfl hownW hrdW hone (by omega) (by omega) hszW ?_)
    intro A' c' w3 ho3 hg3 hat3;have hb3:Below w.heap.size w w3:=Zo HBW2.out hg3 hownW hszW;have q7:=(HQ.out w3 hb3).q7;have k7:=(HB.out.below hb3 HB.out.lt).cellI HBQ.out;have HO3:=Zh ho3;have HB3:=Zh hb3;clear hownW hrdW hszW ho3 hg3 hat3 hb3
    go_wp2_with fail
    go_roundw
    case rel=>exact ⟨p,_,h2,A',n+1,c',M ++[Qry N ls av (p,q)],rfl,rfl,HV2.out,HE2.out,by rw [Yp,HN.out];rfl,by rw [HVV.out,Qiu];exact HO3.out,HB3.out⟩
    case measure=>exact HME.out
end Go.Proofs.YtdheeddnkdhfeaaGreatDoor
namespace Go.Proofs.YtdheeddnkdhfeaaGreatDoor
open Go.RowKit Go.Proofs.Tryz
attribute [local go_sem ↓] Go.wp_at_zero Go.wp_at_succ
theorem Qcp.ex {N:Qal} {ls:List (List Int)} {cl:List Int} (hok:Qaq N) (hP:Qba N.vs.length ls) (h:Qcp N ls cl) (j:Nat) (l:List Int) (a b:Nat) (y z:Tri) (hl:ls[j]?=some l) (hy:N.ar[a]?=some y) (hz:N.ar[b]?=some z) (h1:Qab l y.1≠Qab l y.2.1) (h2:Qab l z.1=Qab l y.2.1) (h3:Qab l z.2.1≠Qab l y.2.1):∃ v,Qfb N (Qcg l (Qab l y.2.1)) a b v:=by
 obtain ⟨_,_,_,_,v,_,_,_,_,_,_,hv⟩:=h.ent hok hP hl hy hz h1 h2 h3;exact ⟨v,hv⟩
theorem next_ok (w:World)(qb g o:Nat)(N:Qal) (ls:List (List Int)) (s t:Nat) (CA:Option Addr) (NC cC:Nat) (cl:List Int) (Q:Option Addr) (L cq mb bb na a:Nat) (y:Tri) (av:List Int) (G:Nat→Prop) (n:Nat) (f:Nat→Nat→Option Value) (h:QR (msk w G) qb g o N ls s t CA NC cC cl Q L cq mb bb na) (hGm:¬G mb)
 (hm:MpQ w mb n f) (hn:n≤1000000) (hmc:MpC w G N.ar ls f) (hok:Qaq N) (hP:Qba N.vs.length ls) (hA:Qcp N ls cl) (hcc:NC≤cC∧cC≤9223372036854775807) (hSm:Qby (gatesOf N.ar ls)≤1000000000) (hy:N.ar[a]?=some y) (hg:Qya N ls av a) :
 Calls prog 104 #[.pointer (some ⟨qb,0,none⟩),.int .i64 ((Qgp ls (toV N a) av:Nat):Int),.int .i64 a] w (NxtR w G mb n N ls av a):=by
 cases hJ:Qgp ls (toV N a) av with
 | succ j=>exact next1_ok w qb g o N ls s t CA NC cC cl Q L cq mb bb na a (j+1) j y av G n f h hGm hm hn hmc hok hP hA hcc hSm hy hg hJ rfl
 | zero =>
  refine (next0_ok w qb g o N ls s t CA NC cC cl Q L cq mb bb na a y (h.le (Qaw _ _)) hok hy).mono ?_;rintro e w' ⟨O,C,nO,cO,cC',rfl,h1,h2,h3,hb⟩;have hx:Nxw mb w w':=Nxw.below hb hm.lt;have hle:Le (msk w' (fun b=>w.heap.size≤b∧b<w'.heap.size)) (msk w' (G2 G w w')):=Qbt (fun _ hb=>.inr hb);exact ⟨O,C,nO,cO,cC',n,_,_,f,rfl,Qxe hok hy hJ,h1.le hle,h2.le hle,hm.below hb,by omega,hmc.le (G2.le hx hGm),hx,h3⟩
theorem Qnn {c v w:Int}(hc:0≤c)(hv:0≤v)(hw:0≤w)(h:1152921504606846976≤v∨1152921504606846976≤w):Qfp (Qfp c v) w=1152921504606846976:=by
 unfold Qfp
 split <;> split <;> omega
theorem Qrv {c v w:Int}(hw:0≤w) (h:c+(v+w)<1152921504606846976):Qfp (Qfp c v) w=c+(v+w):=by
 unfold Qfp
 split <;> split <;> omega
def RunO (w:World)(N:Qal) (ls:List (List Int)) (av:List Int) (s t:Nat) (e:Ending) (w':World):Prop :=
 ∃ v A n c hs,e=.returned (.tuple #[.int .i64 v,.slice A n c])∧RunP N ls av s t v hs∧RdH w' A n (hs.map (Qry N ls av))∧n≤16384∧∀ b,Qac A=some b→w.heap.size≤b
set_option maxRecDepth 20000 in
set_option maxHeartbeats 4000000 in
theorem run_ok (w:World)(qb g o:Nat)(N:Qal) (ls:List (List Int)) (s t:Nat) (CA:Option Addr) (NC cC:Nat) (cl:List Int) (Q:Option Addr) (L cq mb bb na B:Nat) (xs xt:Tri) (h:QR (msk w (fun b=>b<w.heap.size∧b≠bb∧b≠mb)) qb g o N ls s t CA NC cC cl Q L cq mb bb na)
 (hm:MpQ w mb 0 (fun _ _=>none)) (hB:Blk w bb 3 (Qcj (List.replicate na 0))) (hok:Qaq N) (hP:Qba N.vs.length ls) (hA:Qcp N ls cl) (hcc:NC≤cC∧cC≤9223372036854775807) (hSm:Qby (gatesOf N.ar ls)≤1000000000) (hxs:N.ar[s]?=some xs) (hxt:N.ar[t]?=some xt) (hna:na=N.ar.length) (hBB:B≤mb∧B≤bb∧mb≠bb) :
 Calls prog 47 #[.pointer (some ⟨qb,0,none⟩)] w fun e w'=>RunO w N ls [toV N s,frV N t] s t e w'∧Below B w w':=by
 obtain ⟨av,hav⟩:∃ av,av=[toV N s,frV N t]:=⟨_,rfl⟩;have hE:=hA.ex hok hP;have hsn:s<na:=by rw [hna];exact (Zs hxs).1
 have htn:t<na:=by rw [hna];exact (Zs hxt).1
 have hna4:na≤16384:=by rw [hna];exact hok.la
 have HAV:=Zh (show toV N s∈av∧frV N t∈av by rw [hav];simp)
 have HE:=Zh hE;have HOK:=Zh hok;have HP:=Zh hP;have HNA:=Zh hna;have HXS:=Zh hxs;have HBB:=Zh hBB;have hmk:=Qol na (by omega);obtain ⟨G0,hG0⟩:∃ G0:Nat→Prop,G0=fun b=>b<w.heap.size∧b≠bb∧b≠mb:=⟨_,rfl⟩
 rw [←hG0] at h;have HQ:=Zh h;have HM:=Zh hm;have HB:=Zh hB
 have HG0:=Zh (show (∀ b,G0 b→b<w.heap.size)∧¬G0 mb∧¬G0 bb∧∀ b,b<B→G0 b from by
  have:=hm.lt;subst hG0;exact ⟨fun b h=>h.1,fun h=>h.2.2 rfl,fun h=>h.2.1 rfl,fun b h=>⟨by omega,by omega,by omega⟩⟩)
 clear hG0
 have HLV:=Zh (show ∀ V,QR V qb g o N ls s t CA NC cC cl Q L cq mb bb na→∀ (p:Nat) (x:Tri),N.ar[p]?=some x→Calls prog 105 #[.pointer (some ⟨qb,0,none⟩),.int .i64 p] V fun e w'=>e=.returned (.int .i64 ((Qgp ls (toV N p) av:Nat):Int))∧Below V.heap.size V w' from fun V hV p x hx=>by
  rw [hav];exact Qnw V qb g o N ls s t CA NC cC cl Q L cq mb bb na p x xs xt hV hok hP hx hxs hxt)
 have HNX:=Zh (fun (V:World) (G:Nat→Prop) (n a:Nat) (f:Nat→Nat→Option Value) (y:Tri) (hV:QR (msk V G) qb g o N ls s t CA NC cC cl Q L cq mb bb na) (hGm:¬G mb) (hm:MpQ V mb n f) (hn:n≤1000000) (hmc:MpC V G N.ar ls f) (hy:N.ar[a]?=some y) (hg:Qya N ls av a)=>next_ok V qb g o N ls s t CA NC cC cl Q L cq mb bb na a y av G n f hV hGm hm hn hmc hok hP hA hcc hSm hy hg)
 have HHP:=Zh (show ∀ (V:World) (bf:List Int) (dn:Nat→Option Int) (c0:Int) (hs:List (Nat×Nat)),QR V qb g o N ls s t CA NC cC cl Q L cq mb bb na→Blk V bb 3 (Qcj bf)→bf.length=na→Via N ls av s bf dn t c0 hs→hs.length≤16384→Calls prog 103 #[.pointer (some ⟨qb,0,none⟩)] V fun e w'=>(∃ A n c,e=.returned (.slice A n c)∧RdH w' A n (hs.map (Qry N ls av))∧n≤16384∧∀ b,Qac A=some b→V.heap.size≤b)∧Below V.heap.size V w' from fun V bf dn c0 hs h1 h2 h3 h4 h5=>by
  rw [hav] at h4 ⊢;exact hops_ok V qb g o N ls s t CA NC cC cl Q L cq mb bb na bf dn c0 hs xs xt h1 hok hP hxs hxt h2 h3 hna h4 h5)
 rw [←hav];clear hav;have HWE:=Zh (fun (V:World) (hV:Qep V g N) (b:Nat) (y:Tri) (hy:N.ar[b]?=some y)=>Qgg g b N y V hV hy);have hw9:=(Qbn hxs).2.2;obtain ⟨z0,hz0⟩:∃ z,z=xs.2.2:=⟨_,rfl⟩;have hzb:=Qdl (hok.arcs xs (Zm hxs)).w;have HZS:=Zh (show wV N s=z0 by rw [hw9,hz0])
 rw [←hz0] at hzb;have HW0:=Zh (show Calls prog 83 #[.pointer (some ⟨g,0,none⟩),.int .i64 s] w.drew fun e w'=>e=.returned (.int .i64 z0)∧w.drew=w' from by rw [hz0];exact HWE.out _ ((h.gr.le (Qaw _ _)).below (Zr _ _).drew) s xs hxs)
 have hq:=h.le (Qaw _ _);have HSX:=Zh (show ∀ V,V=w.drew→V.cell? ⟨qb,0,none⟩=some (.pointer (some ⟨g,0,none⟩))∧V.cell? ⟨qb,3,none⟩=some (.int .i64 s) from fun V hV=>by subst hV;exact ⟨hq.q0,hq.q3⟩)
 have q7:=hq.q7;have q3:=hq.q3;have hql:=Qaj q7;simp only at hql;clear h hm hB hok hP hA hcc hSm hxs hxt hna hBB hE hw9 hz0 hq
 go_enter func47,ntmps47
 go_wp2_with fail
 refine wp_region_held_drew (S:=fun V=>V=w.drew) (by kernel_rfl) rfl (fun _=>?_);refine tz 0 14 ?_;refine tz 1 15 ?_;refine tz 2 16 ?_;refine tz 3 17 ?_;refine tz 4 18 ?_;refine tz 5 19 ?_;refine tz 6 20 ?_;refine tz 7 21 ?_;refine Zk 8 (fun K hK=>?_);go_simp;with_reducible refine HW0.out.mono ?_
 rintro r w' ⟨rfl,rfl⟩;go_simp;refine hK.out _ _ rfl (fun _=>?_);clear hK K;refine tz 9 23 ?_;refine Zd ?_;clear HW0 HSX
 by_cases hinf:z0=1152921504606846976
 · have e1:(1152921504606846976:Int)≤z0:=by omega
   have HBd:=Zh ((Zr B w).drew)
   go_wp2_with fail
   refine bodyPost_ret (v:=.tuple #[.int .i64 1152921504606846976,.slice none 0 0]) (by simp [results,results47,go_sem]) rfl ?_;exact ⟨⟨_,none,0,0,[],rfl,.inl ⟨by rw [HZS.out];exact hinf,rfl,rfl⟩,⟨rfl,fun i x h=>by simp at h⟩,by omega,fun b hb=>by cases hb⟩,HBd.out⟩
 have e1:¬(1152921504606846976:Int)≤z0:=by omega
 have HNI:=Zh (show wV N s≠1152921504606846976 by rw [HZS.out];exact hinf)
 clear hinf hzb
 go_wp2_with fail
 (refine Qad ?_;intro w1 hw1)
 have hb1:Below w.heap.size w w1:=by rw [hw1];exact Qag
 obtain ⟨db,hdb⟩:∃ db,db=w.heap.size:=⟨_,rfl⟩;have D1:Blk w1 db 4 (Qga (List.replicate na false)):=by rw [hw1,hdb,←Qlf];exact Qbf
 have HZ1:=Zh (show w1.heap.size=db+1 by rw [hw1,hdb];simp)
 have x7:=Zc hb1 (Zn _) q7;have HHN:=Zh (Qme w1 na hna4);have HD1:=Zh D1;have HB1:=Zh hb1;have HDB:=Zh hdb;rw [←hdb];clear hw1 D1 hb1 hdb q7 hmk hql;with_reducible refine HHN.out.mono ?_
 rintro r w2 ⟨gh,rfl,hh,hb2⟩;have x3:=Zc (Zb HB1.out hb2) (Zn _) q3
 have HW2:=Zh (show Qnd w2 G0 qb g o N ls s t CA NC cC cl Q L cq mb bb db gh na 0 (fun _ _=>none) (List.replicate na 0) (List.replicate na false) (fun _=>none) from by
  have hb02:=Zb HB1.out hb2;have hle:Le (msk w G0) (msk w2 G0):=Qbc.msk (Qbc.below hb02);have g1:=HG0.out;have g2:=HM.out.lt;have g3:=HB.out.lt;have g4:=HDB.out;have g5:=HZ1.out;have g6:=hb02.size;refine ⟨HQ.out.le hle,HM.out.below hb02,fun i k u hu=>(by cases hu),HB.out.below hb02 g3,HD1.out.below hb2 HD1.out.lt,hh.less (fun b hb=>?_),fun b hb=>?_,⟨g1.2.1,g1.2.2.1,fun h=>?_,HBB.out.2.2,by omega,by omega⟩,by omega⟩
  · rcases hb with h1|rfl|rfl|rfl
    · have:=g1.1 b h1;omega
    all_goals omega
  · have:=g1.1 b hb;omega
  · have:=g1.1 _ h;omega)
 have HPU:=Zh (Qfh w2 _ HW2.out.hh s hsn 0 (by omega) (by omega));have HB2:=Zh ((Zb HB1.out hb2).mono (show B≤w.heap.size by have:=HBB.out.1;have:=HM.out.lt;omega))
 clear hh hb2 q3 x7 HHN HD1
 go_wp2_with fail
 with_reducible refine HPU.out.mono ?_
 rintro r w3 ⟨rfl,hh3,ha3⟩;have HW3:=Zh (HW2.out.heap hh3 ha3);have HB3:=Zh (HB2.out.trans (ha3.bel B (fun b hb=>.inl (HG0.out.2.2.2 b hb))));have HI3:=Zh (Qtf.init (N:=N) (ls:=ls) (av:=av) (s:=s) (t:=t) (na:=na));clear hh3 ha3 x3 HPU HW2 HB2
 go_wp2_with fail
 go_loopw [] (fun W=>∃ (G:Nat→Prop) (n:Nat) (f:Nat→Nat→Option Value) (bf:List Int) (dnf hp:Nat→Option Int) (dn:List Bool),Qnd W G qb g o N ls s t CA NC cC cl Q L cq mb bb db gh na n f bf dn hp∧Qtf N ls av s t na dnf hp dn bf∧(∀ b,b<B→G b)∧Below B w W) (fun W=>na-doneW db W)
 case atStart=>exact ⟨_,_,_,_,_,_,_,HW3.out,HI3.out,HG0.out.2.2.2,HB3.out⟩
 case round =>
  clear HW3 HI3 HB3;obtain ⟨G,n,f,bf,dnf,hp,dn,hw,hi,hG,hb⟩:=hrel;have HWr:=Zh hw;have HIr:=Zh hi;have HGr:=Zh hG;have HBr:=Zh hb;have HPO:=Zh (Qmh wr hp hw.hh);clear hw hi hG hb
  go_wp2_with fail
  with_reducible refine HPO.out.mono ?_
  rintro e w7 ⟨h7,ha7⟩;have HB7:=Zh (HBr.out.trans (ha7.bel B (fun b hb=>.inl (HGr.out b hb))));have HA7:=Zh ha7;clear ha7
  rcases h7 with ⟨hno,rfl,hh⟩|⟨k,z,hkn,hkz,hmin,rfl,hh⟩
  · have HD:=Zh (HIr.out.miss HOK.out hno)
    clear hno hh
    go_wp2_with fail
    refine bodyPost_ret (v:=.tuple #[.int .i64 1152921504606846976,.slice none 0 0]) (by simp [results,results47,go_sem]) rfl ?_;exact ⟨⟨_,none,0,0,[],rfl,.inr ⟨HNI.out,HD.out,.inl ⟨rfl,rfl⟩⟩,⟨rfl,fun i x h=>by simp at h⟩,by omega,fun b hb=>by cases hb⟩,HB7.out⟩
  · have HW7:=Zh (HWr.out.heap hh HA7.out)
    have HMI:=Zh hmin;have HKZ:=Zh hkz;have q4:=(HW7.out.qr.le (Qaw _ _)).q4;clear hh hmin hkz
    by_cases hkt:k=t
    · subst hkt
      have HD:=Zh (HIr.out.hit HOK.out HKZ.out HMI.out);obtain ⟨hs,hvia,hlen⟩:=HIr.out.via.wait k z HKZ.out;have hcl:=Qiq dn;have HHO:=Zh (HHP.out w7 bf dnf z hs (HW7.out.qr.le (Qaw _ _)) HW7.out.bfB HIr.out.lb hvia (by have:=HIr.out.ld;omega));have HVI:=Zh hvia;clear hvia hlen hcl
      go_wp2_with fail
      with_reducible refine HHO.out.mono ?_
      rintro e w8 ⟨⟨A,n',c,rfl,hr,hn',hgt⟩,hb8⟩;have HR:=Zh hr;have HB8:=Zh (HB7.out.trans (hb8.mono (Yx (show B≤w.heap.size by have:=HBB.out.1;have:=HM.out.lt;omega) HB7.out.size)))
      clear hr hb8
      go_wp2_with fail
      refine bodyPost_ret (v:=.tuple #[.int .i64 z,.slice A n' c]) (by simp [results,results47,go_sem]) rfl ?_;exact ⟨⟨z,A,n',c,hs,rfl,.inr ⟨HNI.out,HD.out,.inr HVI.out.hopP⟩,HR.out,hn',fun b hb=>Yx HB7.out.size (hgt b hb)⟩,HB8.out⟩
    · have hne:¬(k:Int)=(t:Int):=by omega
      have hfree:=HIr.out.free hkn HKZ.out;have HKT:=Zh hkt;obtain ⟨xk,hxk⟩:∃ xk,N.ar[k]?=some xk:=⟨_,Zg (by rw [←HNA.out];exact hkn)⟩;have HXK:=Zh hxk;have hkl:k<dn.length:=by rw [HIr.out.ld];exact hkn
      have dk:=HW7.out.dd.cellB (i:=k) (Qbj false hkl);have df:=HW7.out.dd.frozen k;have HW8:=Zh (HW7.out.done k);have HDK:=Zh hfree.2;have HKL:=Zh hkl;have HB8:=Zh (HB7.out.setCell (p:=⟨db,k,none⟩) (by show B≤db;have:=HDB.out;have:=HBB.out.1;have:=HM.out.lt;omega) (.bool true))
      have hkn':(k:Int)<(na:Int):=by omega
      have hk0:(0:Int)≤(k:Int):=by omega
      clear hkt hfree hxk hkl
      go_wp2_with fail
      (refine Qad ?_;intro w8 hw8)
      rw [←hw8] at HW8 HB8;clear hw8 q4 dk df;with_reducible refine (HLV.out w8 (HW8.out.qr.le (Qaw _ _)) k xk HXK.out).mono ?_
      rintro e w9 ⟨rfl,hb9⟩;have HW9:=Zh (HW8.out.below hb9);have HB9:=Zh (HB8.out.trans (hb9.mono (Nat.le_of_lt (Nat.lt_of_le_of_lt HBB.out.1 HW8.out.mq.lt))));have HTK:=Zh (fun os cs=>HIr.out.take (os:=os) (cs:=cs) HOK.out HP.out HE.out ⟨_,HXS.out⟩ HAV.out.1 hkn HKZ.out HMI.out HKT.out);have hcl:=Qiq (dn.set k true);rw [Yq,HIr.out.ld] at hcl;have hnn:=HW9.out.nn;have HNO:=Zh (HNX.out w9 G n k f xk HW9.out.qr HW9.out.nb.1 HW9.out.mq (by omega) HW9.out.mc HXK.out (HTK.out [] []).2);clear hb9 hcl hnn HW8 HB8
      go_wp2_with fail
      with_reducible refine HNO.out.mono ?_
      rintro e w10 ⟨O,C,nO,cO,cC',n',os,cs,f',rfl,hnp,hO,hC,hmq,hn',hmc,hx,hnO⟩;have HNN:=Zh (show n'≤(dn.set k true).countP (fun b=>b) by have:=HWr.out.nn;rw [Qdz HKL.out HDK.out];omega)
      have HW10:=Zh (HW9.out.nxt hx hmq hmc HNN.out);have HB10:=Zh (HB9.out.trans (hx.bel B HBB.out.1));have HJ10:=Zh (HTK.out os cs).1;obtain ⟨GG,hGG⟩:∃ GG,GG=G2 G w9 w10:=⟨_,rfl⟩;rw [←hGG] at HW10 hO hC;have HGG:=Zh (show ∀ b,b<B→GG b from fun b hb=>by rw [hGG];exact .inl (HGr.out b hb))
      have HO:=Zh hO;have HC:=Zh hC;have HNP:=Zh hnp;clear hGG hO hC hnp hmq hn' hmc hx HNO HTK HW9 HB9
      go_wp2_with fail
      obtain ⟨wi,hwi⟩:∃ wi,wi=w10:=⟨_,rfl⟩;subst hwi
      go_loopw [73] (fun ui V=>∃ (i:Nat) (hp2:Nat→Option Int) (bf2:List Int),i≤nO∧ui=.int .i64 i∧Qnd V GG qb g o N ls s t CA NC cC cl Q L cq mb bb db gh na n' f' bf2 (dn.set k true) hp2∧Qqc N ls av s t na k z os cs i (fun q=>if q=k then some z else dnf q) hp2 (dn.set k true) bf2∧Le (msk wi GG) (msk V GG)∧Below B w V) (fun ui _=>nO-(intOf ui).toNat)
      case atStart=>exact ⟨0,_,_,Nat.zero_le _,rfl,HW10.out,HJ10.out,fun _ _ h=>h,HB10.out⟩
      case round =>
       clear HW10 HJ10 HB10;obtain ⟨i,hp2,bf2,hin,rfl,hw,hj,hle,hb⟩:=hrel;have HWi:=Zh hw;have HJi:=Zh hj;have HLi:=Zh hle;have HBi:=Zh hb;clear hw hj hle hb
       by_cases hlt:i<nO
       rotate_left
       · obtain rfl:i=nO:=by omega
         have j2:¬((i:Int)<(i:Int)):=by omega
         have HIN:=Zh (HJi.out.all HNP.out (by rw [HO.out.1];exact Zn _))
         go_wp2_with fail
         go_roundw
         case rel=>exact ⟨GG,n',f',bf2,_,hp2,_,HWi.out,HIN.out,HGG.out,HBi.out⟩
         case measure =>
          rw [Qiy HWi.out.dd,Qiy HWr.out.dd,Qdz HKL.out HDK.out];have h1:=Qiq (dn.set k true);rw [Qdz HKL.out HDK.out,Yq,HIr.out.ld] at h1;omega
       obtain ⟨ob,oo,zb,rfl,hzb,cO1⟩:=((HO.out.le HLi.out).le (Qaw _ _)).at_ hlt;obtain ⟨pb,po,v,rfl,hv,cC1⟩:=((HC.out.le HLi.out).le (Qaw _ _)).at_ hlt;obtain ⟨b,y,rfl,hy,hv0,hv9,hst⟩:=HNP.out.to_ i zb v hzb hv;have hyw:=Qdl (HOK.out.arcs y (Zm hy)).w;have hbn:b<na:=by rw [HNA.out];exact (Zs hy).1
       obtain ⟨wy,hwy⟩:∃ wy,wy=y.2.2:=⟨_,rfl⟩;rw [←hwy] at hyw;have hz0:=HJi.out.c0;have hzM:z≤70373039144960:=hz0.2;have j0:(0:Int)≤(i:Int):=by omega
       have j1:(i:Int)<(nO:Int):=by omega
       have q0:=(HWi.out.qr.le (Qaw _ _)).q0;have HSX:=Zh (show ∀ V,Below wr.heap.size wr V→V.cell? ⟨pb,po+i,none⟩=some (.int .i64 v)∧V.cell? ⟨qb,0,none⟩=some (.pointer (some ⟨g,0,none⟩)) from fun V hV=>⟨Zc hV (Zn _) cC1,Zc hV (Zn _) q0⟩)
       have HGW:=Zh (show Calls prog 83 #[.pointer (some ⟨g,0,none⟩),.int .i64 b] wr.drew fun e w'=>e=.returned (.int .i64 wy)∧wr.drew=w' from by rw [hwy];exact HWE.out _ ((HWi.out.qr.gr.le (Qaw _ _)).below (Zr _ _).drew) b y hy)
       obtain ⟨w11,hw11⟩:∃ w11,w11=(wr.alloc (.cells #[.int .i64 z,.int .i64 v,.int .i64 wy] 2)).drew:=⟨_,rfl⟩;have hb11:Below wr.heap.size wr w11:=by rw [hw11];exact ((Zr _ _).alloc (Zn _) _).drew
       have hrd:RdI w11 (some ⟨wr.heap.size,0,none⟩) 3 [z,v,wy]:=by rw [hw11];exact Blk.rdI (t:=2) (l:=[z,v,wy]) (Blk.new wr 2 (Qcj [z,v,wy])).drew rfl
       have HSU:=Zh (Qpu _ 3 w11 z v wy hrd ⟨hz0.1,by omega⟩ ⟨hv0,hv9⟩ ⟨by omega,by omega⟩);obtain ⟨far,hfar⟩:∃ far,far=Qfp (Qfp z v) wy:=⟨_,rfl⟩;rw [←hfar] at HSU;have HFR:=Zh hfar;have HWY:=Zh hwy;have HY:=Zh hy;have HZB:=Zh hzb;have HV:=Zh hv;have HST:=Zh hst;have HB11:=Zh hb11;have HW11:=Zh hw11;have HYW:=Zh hyw;clear hzb hv hy hst hwy hfar hb11 hw11 hrd hyw
       go_wp2_with fail
       refine wp_region_held_drew (S:=fun V=>Below wr.heap.size wr V) (by kernel_rfl) (Zr _ _).drew (fun _=>?_);refine tz 0 78 ?_;refine tz 1 79 ?_;refine tz 2 80 ?_;refine tz 3 81 ?_;refine tz 4 82 ?_;refine tz 5 83 ?_;refine tz 6 84 ?_;refine tz 7 85 ?_;refine tz 8 86 ?_;refine tz 9 87 ?_;refine Zk 10 (fun K hK=>?_);go_simp;with_reducible refine HGW.out.mono ?_
       rintro e w' ⟨rfl,rfl⟩;go_simp;refine hK.out _ _ (Zr _ _).drew (fun _=>?_);clear hK K;refine Zk 11 (fun K hK=>?_);go_simp;rw [←HW11.out];refine hK.out _ _ HB11.out (fun _=>?_);clear hK K;refine Zk 12 (fun K hK=>?_);go_simp;with_reducible refine HSU.out.mono ?_
       rintro e w' ⟨rfl,rfl⟩;go_simp;refine hK.out _ _ HB11.out (fun _=>?_);clear hK K;refine tz 13 13 ?_;refine Zd ?_;have HWj:=Zh (HWi.out.below HB11.out);have HLj:=Zh (HLi.out.trans (Qbc.msk (G:=GG) (Qbc.below HB11.out)));have HBj:=Zh (HBi.out.trans (HB11.out.mono (Nat.le_of_lt (Nat.lt_of_le_of_lt HBB.out.1 HWi.out.mq.lt))));clear HSX HGW HSU HW11 cO1 cC1 q0
       by_cases hno:v=1152921504606846976∨wy=1152921504606846976
       · have hff:¬far<1152921504606846976:=by
          have:=HYW.out;rw [HFR.out,Qnn hz0.1 hv0 (by omega) (by omega)];omega
         have HJX:=Zh (HJi.out.skip HZB.out HV.out HY.out (by rw [←HWY.out];exact hno));have HWX:=HWj;have HLX:=HLj;have HBX:=HBj;clear hno
         go_wp2_with fail
         go_roundw
         case rel=>exact ⟨i+1,_,_,by omega,by go_num,HWX.out,HJX.out,HLX.out,HBX.out⟩
         case measure=>simp [intOf];omega
       · have HS:=Zh (HST.out (fun e=>hno (.inl e)) (fun e=>hno (.inr (by rw [HWY.out];exact e))))
         have hsb:=HS.out.bd HOK.out;rw [←HWY.out] at hsb;have hyw:=HYW.out;have hfe:far=z+(v+wy):=by rw [HFR.out,Qrv (by omega) (by omega)]
         have hff:far<1152921504606846976:=by omega
         have hf0:0≤far:=by omega
         have HFE:=Zh hfe;have hbl:b<(dn.set k true).length:=by rw [HJi.out.ld];exact hbn
         have db0:=HWj.out.dd.cellB (i:=b) (Qbj false hbl);have k0:(0:Int)≤(b:Int):=by omega
         have k1:(b:Int)<(na:Int):=by omega
         obtain ⟨dd,hdd⟩:∃ dd,dd=(dn.set k true).getD b false:=⟨_,rfl⟩;rw [←hdd] at db0;have HDD:=Zh hdd;clear hno hsb hyw hfe hbl hdd
         cases dd with
         | true =>
          have HJX:=Zh (HJi.out.off HZB.out HV.out HY.out HS.out hbn HDD.out.symm);have HWX:=HWj;have HLX:=HLj;have HBX:=HBj
          go_wp2_with fail
          go_roundw
          case rel=>exact ⟨i+1,_,_,by omega,by go_num,HWX.out,HJX.out,HLX.out,HBX.out⟩
          case measure=>simp [intOf];omega
         | false =>
          have hput:=HJi.out.put HOK.out HZB.out HV.out HY.out HS.out hbn HDD.out.symm;rw [←HWY.out,←HFE.out] at hput;have HJP:=Zh hput;have HPU:=Zh (Qfh w11 hp2 HWj.out.hh b hbn far hf0 (by omega));obtain ⟨pb2,hpb2⟩:∃ x,x=Qko hp2 b far:=⟨_,rfl⟩;rw [←hpb2] at HPU HJP;clear hput
          go_wp2_with fail
          with_reducible refine HPU.out.mono ?_
          rintro e w12 ⟨rfl,hh12,ha12⟩;have HW12:=Zh (HWj.out.heap hh12 ha12);have HL12:=Zh (HLj.out.trans (Qbc.msk (G:=GG) (ha12.kept.mono (fun _ hb=>.inl hb))));have HB12:=Zh (HBj.out.trans (ha12.bel B (fun b hb=>.inl (HGG.out b hb))));clear hh12 ha12 HPU hpb2 db0
          cases pb2 with
          | false =>
           have HJX:=Zh (show Qqc N ls av s t na k z os cs (i+1) (fun q=>if q=k then some z else dnf q) (Qen hp2 b far) (dn.set k true) bf2 from HJP.out)
           have HWX:=HW12;have HLX:=HL12;have HBX:=HB12
           go_wp2_with fail
           go_roundw
           case rel=>exact ⟨i+1,_,_,by omega,by go_num,HWX.out,HJX.out,HLX.out,HBX.out⟩
           case measure=>simp [intOf];omega
          | true =>
           have q7:=(HW12.out.qr.le (Qaw _ _)).q7;have hbb2:b<bf2.length:=by rw [HJi.out.lb];exact hbn
           obtain ⟨ov,hov⟩:∃ ov,bf2[b]?=some ov:=⟨_,Zg hbb2⟩;have b0:=HW12.out.bfB.cellI hov;have bz:=HW12.out.bfB.frozen b;have HJX:=Zh (show Qqc N ls av s t na k z os cs (i+1) (fun q=>if q=k then some z else dnf q) (Qen hp2 b far) (dn.set k true) (bf2.set b (k:Int)) from HJP.out)
           have HWX:=Zh (HW12.out.bef b k);have HLX:=Zh (HL12.out.trans (Qbc.msk (G:=GG) (Qbc.set w12 bb b (.int .i64 (k:Int)) HW12.out.nb.2.1)));have HBX:=Zh (HB12.out.setCell (p:=⟨bb,b,none⟩) HBB.out.2.1 (.int .i64 (k:Int)));clear hov hbb2
           go_wp2_with fail
           go_roundw
           case rel=>exact ⟨i+1,_,_,by omega,by go_num,HWX.out,HJX.out,HLX.out,HBX.out⟩
           case measure=>simp [intOf];omega
end Go.Proofs.YtdheeddnkdhfeaaGreatDoor
