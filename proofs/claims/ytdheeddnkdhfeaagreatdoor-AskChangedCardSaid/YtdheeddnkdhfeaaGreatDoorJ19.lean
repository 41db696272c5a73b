/- Parts of the proof: AsU, AsH, AsX, AsF, AsD. -/
import Derived.Test.YtdheeddnkdhfeaaGreatDoorJ18
import Derived.Test.YtdheeddnkdhfeaaGreatDoorShelf3
namespace Go.Proofs.YtdheeddnkdhfeaaGreatDoor
open Go.RowKit Go.Proofs.Tryz
theorem Nxw.gb {mb:Nat}{w w':World}(h:Nxw mb w w'):w.grownBy w' (some mb):=⟨(h.bel 0 (Nat.zero_le _)).os,(h.bel 0 (Nat.zero_le _)).tape,(h.bel 0 (Nat.zero_le _)).output,h.size,fun k hk hne=>h.kept k (fun e=>hne (by rw [e])) hk⟩
theorem Qcu.grown {W W':World}{G G':Nat→Prop}{g n mb:Nat}{hp:Nat→Option Int}(h:Qcu W G g n hp) (hg:W.grownBy W' (some mb)) (hm:G mb) (hG:∀ b,G' b→b<W'.heap.size∧(G b∨W.heap.size≤b)):Qcu W' G' g n hp:=by
 obtain ⟨A,gc,gs,m,c,R,C,S,h1,h2⟩:=h;have ho:∀ b,b<W.heap.size→¬G b→¬G' b:=fun b h3 h4 h5=>(hG b h5).2.elim h4 (fun h6=>by omega)
 have hne:∀ b,¬G b→b≠mb:=fun b hb e=>hb (e▸hm)
 refine ⟨A,gc,gs,m,c,R,C,S,⟨h1.blk.grown hg (fun e=>hne g h1.dG.1 (by injection e with e;exact e.symm)),h1.row.far hg (.inr (fun e=>hne mb (h1.dA mb e).2.2.2 rfl)),h1.cs.grown hg (fun e=>hne gc h1.dG.2.1 (by injection e with e;exact e.symm)),h1.ss.grown hg (fun e=>hne gs h1.dG.2.2 (by injection e with e;exact e.symm)),fun b hb'=>⟨(h1.dA b hb').1,(h1.dA b hb').2.1,(h1.dA b hb').2.2.1,ho b (h1.row.lt b hb').2 (h1.dA b hb').2.2.2⟩,h1.dg,⟨ho _ h1.blk.lt h1.dG.1,ho _ h1.cs.lt h1.dG.2.1,ho _ h1.ss.lt h1.dG.2.2⟩,fun b hb'=>(hG b hb').1,h1.lr,h1.lc,h1.ls,h1.n0⟩,h2⟩
structure Qop (W:World) (G:Nat→Prop) (qb g o:Nat) (N:Qak) (ls:List (List Int)) (s t:Nat) (CA:Option Addr) (NC cC:Nat) (cl:List Int) (Q:Option Addr) (L cq mb bb db gh na n:Nat) (f:Nat→Nat→Option Value) (bf:List Int) (dn:List Bool) (hp:Nat→Option Int):Prop where
 qr:QR (msk W G) qb g o N ls s t CA NC cC cl Q L cq mb bb na
 mq:MpQ W mb n f
 mc:MpC W G N.ar ls f
 bfB:Blk W bb 3 (Qcs bf)
 dd:Blk W db 4 (Qgk dn)
 hh:Qcu W (fun b=>G b∨b=mb∨b=bb∨b=db) gh na hp
 gl:∀ b,G b→b<W.heap.size
 nb:¬G mb∧¬G bb∧¬G db∧mb≠bb∧mb≠db∧bb≠db
 nn:n≤dn.countP (fun b=>b)
section
variable {W W':World} {G:Nat→Prop} {qb g o:Nat} {N:Qak} {ls:List (List Int)} {s t:Nat} {CA:Option Addr} {NC cC:Nat} {cl:List Int} {Q:Option Addr} {L cq mb bb db gh na n:Nat} {f:Nat→Nat→Option Value} {bf:List Int} {dn:List Bool} {hp:Nat→Option Int}
theorem Qop.below (h:Qop W G qb g o N ls s t CA NC cC cl Q L cq mb bb db gh na n f bf dn hp)(hb:Below W.heap.size W W'):Qop W' G qb g o N ls s t CA NC cC cl Q L cq mb bb db gh na n f bf dn hp :=
 have hle:Le (msk W G) (msk W' G):=Qbb.msk (Qbb.below hb)
 ⟨h.qr.le hle,h.mq.below hb,h.mc.le hle,h.bfB.below hb h.bfB.lt,h.dd.below hb h.dd.lt,h.hh.more hb (fun b hb'=>⟨Yu (h.hh.lt b hb') hb.size,.inl hb'⟩),fun b hb'=>Yu (h.gl b hb') hb.size,h.nb,h.nn⟩
theorem Qop.nxt {n':Nat}{f':Nat→Nat→Option Value}(h:Qop W G qb g o N ls s t CA NC cC cl Q L cq mb bb db gh na n f bf dn hp)(hx:Nxw mb W W')(hm:MpQ W' mb n' f') (hc:MpC W' (G2 G W W') N.ar ls f') (hn:n'≤dn.countP (fun b=>b)):Qop W' (G2 G W W') qb g o N ls s t CA NC cC cl Q L cq mb bb db gh na n' f' bf dn hp:=by
 have hng:∀ b,b<W.heap.size→¬G b→¬G2 G W W' b:=fun b h1 h2 h3=>h3.elim h2 (fun h4=>by omega)
 have hs:=hx.size;have hml:=h.mq.lt;have hbl:=h.bfB.lt;have hdl:=h.dd.lt;refine ⟨h.qr.le (G2.le hx h.nb.1),hm,hc,h.bfB.grown hx.gb (fun e=>h.nb.2.2.2.1 (by injection e)),h.dd.grown hx.gb (fun e=>h.nb.2.2.2.2.1 (by injection e)),h.hh.grown hx.gb (.inr (.inl rfl)) (fun b hb=>?_),fun b hb=>?_,⟨hng _ hml h.nb.1,hng _ hbl h.nb.2.1,hng _ hdl h.nb.2.2.1,h.nb.2.2.2⟩,hn⟩
 · rcases hb with (h1|h1)|rfl|rfl|rfl
   · have:=h.gl b h1;exact ⟨by omega,.inl (.inl h1)⟩
   · exact ⟨h1.2,.inr h1.1⟩
   · exact ⟨by omega,.inl (.inr (.inl rfl))⟩
   · exact ⟨by omega,.inl (.inr (.inr (.inl rfl)))⟩
   · exact ⟨by omega,.inl (.inr (.inr (.inr rfl)))⟩
 · rcases hb with h1|h1
   · have:=h.gl b h1;omega
   · exact h1.2
theorem Qop.heap {hp':Nat→Option Int}(h:Qop W G qb g o N ls s t CA NC cC cl Q L cq mb bb db gh na n f bf dn hp) (hh:Qcu W' (fun b=>G b∨b=mb∨b=bb∨b=db) gh na hp') (ha:Aft (fun b=>G b∨b=mb∨b=bb∨b=db) W W'):Qop W' G qb g o N ls s t CA NC cC cl Q L cq mb bb db gh na n f bf dn hp' :=
 have hle:Le (msk W G) (msk W' G):=Qbb.msk (ha.kept.mono (fun _ hb=>.inl hb))
 ⟨h.qr.le hle,h.mq.at_ (ha.kept mb (.inr (.inl rfl)) h.mq.lt),h.mc.le hle,(ha.kept bb (.inr (.inr (.inl rfl))) h.bfB.lt).trans h.bfB,(ha.kept db (.inr (.inr (.inr rfl))) h.dd.lt).trans h.dd,hh,fun b hb=>Yu (h.gl b hb) ha.size,h.nb,h.nn⟩
theorem Qku:∀ (l:List Bool)(p:Nat),l.countP (fun b=>b)≤(l.set p true).countP (fun b=>b)
 | [],p=>by simp
 | b::l,0=>by cases b <;> simp
 | b::l,p+1=>by
  have:=Qku l p
  cases b <;> simp <;> omega
theorem Qop.done (h:Qop W G qb g o N ls s t CA NC cC cl Q L cq mb bb db gh na n f bf dn hp)(p:Nat):Qop (W.setCell ⟨db,p,none⟩ (.bool true)) G qb g o N ls s t CA NC cC cl Q L cq mb bb db gh na n f bf (dn.set p true) hp :=
 have hle:Le (msk W G) (msk (W.setCell ⟨db,p,none⟩ (.bool true)) G):=Qbb.msk (Qbb.set _ _ _ _ h.nb.2.2.1)
 ⟨h.qr.le hle,h.mq.set (fun e=>h.nb.2.2.2.2.1 e.symm) _,h.mc.le hle,h.bfB.far_ h.nb.2.2.2.2.2 _,h.dd.setB rfl,h.hh.set (.inr (.inr (.inr rfl))) _,fun b hb=>by simpa [World.setCell] using h.gl b hb,h.nb,Yx h.nn (Qku _ _)⟩
theorem Qop.bef (h:Qop W G qb g o N ls s t CA NC cC cl Q L cq mb bb db gh na n f bf dn hp)(b p:Nat):Qop (W.setCell ⟨bb,b,none⟩ (.int .i64 (p:Int))) G qb g o N ls s t CA NC cC cl Q L cq mb bb db gh na n f (bf.set b (p:Int)) dn hp :=
 have hle:Le (msk W G) (msk (W.setCell ⟨bb,b,none⟩ (.int .i64 (p:Int))) G):=Qbb.msk (Qbb.set _ _ _ _ h.nb.2.1)
 ⟨h.qr.le hle,h.mq.set (fun e=>h.nb.2.2.2.1 e.symm) _,h.mc.le hle,h.bfB.setI rfl,h.dd.far_ (fun e=>h.nb.2.2.2.2.2 e.symm) _,h.hh.set (.inr (.inr (.inl rfl))) _,fun b hb=>by simpa [World.setCell] using h.gl b hb,h.nb,h.nn⟩
end
end Go.Proofs.YtdheeddnkdhfeaaGreatDoor
namespace Go.Proofs.YtdheeddnkdhfeaaGreatDoor
open Go.RowKit Go.Sort Go.Shelf Go.Proofs.Tryz
attribute [local go_sem ↓] Go.wp_at_zero Go.wp_at_succ
abbrev Qmz:=Nat×Nat×Nat
def hpc (x:Qmz):List Value:=[.int .i64 (x.1:Int),.int .i64 (x.2.1:Int),.int .i64 (x.2.2:Int)]
def Qqo (l:List Qmz):List Value:=l.flatMap hpc
theorem Qsk (x:Qmz):∀ u∈hpc x,u.oneCell'=true:=by
 intro u hu;simp only [hpc,List.mem_cons,List.not_mem_nil,or_false] at hu
 rcases hu with rfl|rfl|rfl <;> rfl
theorem Qhp (l m:List Qmz):Qqo (l ++m)=Qqo l ++Qqo m:=by simp [Qqo]
theorem Qia (x:Qmz):Qqo [x]=hpc x:=by simp [Qqo]
theorem Qtt (l:List Qmz):(Qqo l).length=l.length*3:=by
 induction l with
 | nil=>rfl
 | cons x l ih=>rw [show x::l=[x] ++l from rfl,Qhp,Yp,ih,Qia,Yp];simp [hpc];omega
theorem Qrj:∀ (l:List Qmz)(k:Nat)(e:Qmz),l[k]?=some e→∀ q,q<3→(Qqo l)[k*3+q]?=(hpc e)[q]?
 | [],k,e,h=>by simp at h
 | x::l,0,e,h=>by
  intro q hq;simp at h;subst h;rw [show x::l=[x] ++l from rfl,Qhp,Qia,Yc (by simp [hpc];omega),Nat.zero_mul,Yz]
 | x::l,k+1,e,h=>by
  intro q hq;have:=Qrj l k e (by simpa using h) q hq;rw [show x::l=[x] ++l from rfl,Qhp,Qia,Yb (by simp [hpc];omega)]
  rw [←this]
  congr 1
  simp [hpc];omega
def RdH (w:World)(A:Option Addr)(n:Nat)(L:List Qmz):Prop :=
 L.length=n∧∀ i x,L[i]?=some x→∃ b o,A=some ⟨b,o,none⟩∧w.cell? ⟨b,o+i*3,none⟩=some (.int .i64 (x.1:Int))∧w.cell? ⟨b,o+i*3+1,none⟩=some (.int .i64 (x.2.1:Int))∧w.cell? ⟨b,o+i*3+2,none⟩=some (.int .i64 (x.2.2:Int))
theorem RdH.le {w w':World}{A:Option Addr}{n:Nat}{L:List Qmz}(h:RdH w A n L)(hl:Le w w'):RdH w' A n L :=
 ⟨h.1,fun i x hx=>by
  obtain ⟨b,o,e,h1,h2,h3⟩:=h.2 i x hx;exact ⟨b,o,e,hl _ _ h1,hl _ _ h2,hl _ _ h3⟩⟩
theorem isAggHop (w:World):(isAgg 100).run prog w=.ok true w:=by kernel_rfl
theorem Qyx (w:World):(Go.sizeOf 100).run prog w=.ok 3 w:=by kernel_rfl
theorem infoHop:(Tryz.prog.info? 100).map (fun i=>(i.zero,i.size,i.bytes))=some (some (.agg #[.int .i64 0,.int .i64 0,.int .i64 0]),3,24):=by kernel_rfl
theorem rev_ok (A:Option Addr)(n c B:Nat)(L:List Qmz)(w:World) (hO:Own w B 100 3 A n c (Qqo L)) (hB:B≤w.heap.size) (hbig:n<4611686018427387904) :
 Calls prog 152 #[.slice A n c] w fun e w'=>e=.returned (.tuple #[])∧RdH w' A n L.reverse∧Below B w w':=by
 have hlen:L.length=n:=by
  have:=hO.1;rw [Qtt] at this;omega
 rcases Nat.eq_zero_or_pos n with h0|h0
 · subst h0
   obtain rfl:L=[]:=List.eq_nil_of_length_eq_zero hlen;have hcon:=@AnyQ.slices_Reverse_empty _ _ revHop A c w;refine Calls.mono (show Calls prog 152 _ _ _ from hcon) ?_
   rintro e w' ⟨rfl,rfl⟩;exact ⟨rfl,⟨rfl,fun i x hx=>by simp at hx⟩,Zr _ _⟩
 · obtain ⟨g,cur,rfl,hg,hblk,hcur⟩:=hO.block h0
   have hds:L.toArray.size=n:=by simpa using hlen
   have hget:∀ i (hi:i<n),L.toArray[i]! = L[i]:=fun i hi=>by
    rw [getElem!_pos L.toArray i (by omega)];simp
   have hrd:=hO.rds
   have hH:HoldsK hpc 3 w g 0 L.toArray:=fun j hj=>by
    have hj':j<n*3:=by rw [size_flatK,hds] at hj;exact hj
    rw [Yz];refine ⟨?_,hblk.frozen j⟩;rw [get_flatK _ _ _ _ (by rw [hds];exact hj'),hget (j / 3) (by omega)];have h1:=Qrj L (j / 3) L[j / 3] (Zg (by omega)) (j % 3) (by omega);rw [show j / 3*3+j % 3=j by omega] at h1
    obtain ⟨v,hv⟩:∃ v,(hpc L[j / 3])[j % 3]?=some v:=⟨_,Zg (show j % 3<(hpc L[j / 3]).length from Nat.mod_lt j (by omega))⟩
    rw [hv] at h1;obtain ⟨b,o,e,hc⟩:=hrd.2 j v h1
    cases e
    rw [Yz] at hc;rw [hc]
    have:(hpc L[j / 3])[j % 3]! = v:=by
     rw [getElem!_def,hv]
    rw [this]
    rfl
   have hcon:=AnyQ.slices_Reverse revHop 3 isAggHop Qyx hpc (fun _=>rfl) (fun x v hv=>Qsk x v hv) g 0 c L.toArray w hH (by omega);rw [hds] at hcon;refine Calls.mono (show Calls prog 152 _ _ _ from hcon) ?_
   rintro e w' ⟨rfl,q,rfl⟩;have hH':=holdsK_putRowK hpc 3 (Sort.ahead w q) g 0 L.toArray L.toArray.reverse hH (by simp);refine ⟨rfl,⟨by simpa using hlen,fun i x hx=>?_⟩,?_⟩
   · have hi:i<L.toArray.reverse.size:=by have:=(Zs hx).1;simpa using this
     have hx2:L.toArray.reverse[i]! = x:=by
      rw [getElem!_pos L.toArray.reverse i hi];have:=(Zs hx).2
      simpa using this
     have h1:=(HoldsK.cell hH' hi (show 0<3 by omega)).1
     have h2:=(HoldsK.cell hH' hi (show 1<3 by omega)).1
     have h3:=(HoldsK.cell hH' hi (show 2<3 by omega)).1
     rw [hx2] at h1 h2 h3;exact ⟨g,0,rfl,h1,h2,h3⟩
   · have hgr:w.grownBy (putRowK hpc 3 (Sort.ahead w q) g 0 L.toArray.reverse) (some g):=by
      refine ⟨rfl,rfl,rfl,by simp [putRowK,putRow,mapBlock,Sort.ahead],fun k hk hne=>?_⟩;have hne':k≠g:=fun e=>hne (by rw [e])
      simp only [putRowK,putRow,mapBlock,Array.getElem?_modify];rw [if_neg (by omega)]
      rfl
     exact (Zr B w).grown hgr hB fun k hk=>by cases hk;exact hg
theorem HSt.ar {N:Qak} {ls:List (List Int)} {av:List Int} {p q:Nat} {d:Int} (h:HSt N ls av p q d):∃ x,N.ar[q]?=some x:=by
 rcases h with ⟨_,y,hy,_⟩|⟨j,l,y,z,v,_,_,_,hz,_⟩
 · exact ⟨y,hy⟩
 · exact ⟨z,hz⟩
theorem Via.ar {N:Qak} {ls:List (List Int)} {av:List Int} {s q:Nat} {bf:List Int} {dn:Nat→Option Int} {c:Int} {hs:List (Nat×Nat)} (h:Via N ls av s bf dn q c hs) (hs0:∃ x,N.ar[s]?=some x):∃ x,N.ar[q]?=some x:=by
 cases h with
 | start=>exact hs0
 | step _ _ _ _ h5=>exact h5.ar
noncomputable def Qte (N:Qak) (ls:List (List Int)) (av:List Int) (p:Nat×Nat):Qmz:=(Qfy ls (toV N p.1) av,p.1,p.2)
set_option maxRecDepth 20000 in
set_option maxHeartbeats 2000000 in
theorem hops_ok (w:World)(qb g o:Nat)(N:Qak) (ls:List (List Int)) (s t:Nat) (CA:Option Addr) (NC cC:Nat) (cl:List Int) (Q:Option Addr) (L cq mb bb na:Nat) (bf:List Int) (dn:Nat→Option Int) (c0:Int) (hs:List (Nat×Nat)) (xs xt:Tri) (h:QR w qb g o N ls s t CA NC cC cl Q L cq mb bb na) (hok:Qas N) (hP:Qbc N.vs.length ls) (hxs:N.ar[s]?=some xs) (hxt:N.ar[t]?=some xt)
 (hB:Blk w bb 3 (Qcs bf)) (hlb:bf.length=na) (hna:na=N.ar.length) (hv:Via N ls [toV N s,frV N t] s bf dn t c0 hs) (hl:hs.length≤16384) :
 Calls prog 103 #[.pointer (some ⟨qb,0,none⟩)] w fun e w'=>(∃ A n c,e=.returned (.slice A n c)∧RdH w' A n (hs.map (Qte N ls [toV N s,frV N t]))∧n≤16384∧∀ b,Qac A=some b→w.heap.size≤b)∧Below w.heap.size w w':=by
 obtain ⟨av,hav⟩:∃ av,av=[toV N s,frV N t]:=⟨_,rfl⟩;rw [←hav] at hv ⊢;have HQ:=Zh (fun V (hV:Below w.heap.size w V)=>h.below hV)
 have HLV:=Zh (show ∀ V,Below w.heap.size w V→∀ (p:Nat) (x:Tri),N.ar[p]?=some x→Calls prog 105 #[.pointer (some ⟨qb,0,none⟩),.int .i64 p] V fun e w'=>e=.returned (.int .i64 ((Qfy ls (toV N p) av:Nat):Int))∧Below V.heap.size V w' from fun V hV p x hx=>by
  rw [hav];exact Qpf V qb g o N ls s t CA NC cC cl Q L cq mb bb na p x xs xt (h.below hV) hok hP hx hxs hxt)
 have HB:=Zh hB;have HV:=Zh hv;have HLB:=Zh hlb;have HNA:=Zh hna;have HL:=Zh hl;have HS0:=Zh (show ∃ x,N.ar[s]?=some x from ⟨_,hxs⟩)
 have q4:=h.q4;have HLA:=Zh hok.la;clear h hok hP hxs hxt hB hlb hna hv hl
 go_enter func103,ntmps103
 go_wp2_with fail
 go_loopw [3,4] (fun ul ub W=>∃ (q:Nat) (cq:Int) (h1:List (Nat×Nat)) (A:Option Addr) (n c:Nat) (M:List Qmz),ub=.int .i64 q∧ul=.slice A n c∧Via N ls av s bf dn q cq h1∧hs.map (Qte N ls av)=h1.map (Qte N ls av) ++M.reverse∧n=M.length∧Own W w.heap.size 100 3 A n c (Qqo M)∧Below w.heap.size w W) (fun _ ub _=>Qqr N ls av s bf dn (intOf ub).toNat)
 case atStart=>exact ⟨t,c0,hs,none,0,0,[],rfl,rfl,HV.out,by simp,rfl,Own.nil _ _ _ _,Zr _ _⟩
 case round =>
  obtain ⟨q,cq,h1,A,n,c,M,rfl,rfl,hv,he,hn,ho,hb⟩:=hrel;have HO:=Zh ho;have HBW:=Zh hb;have HE:=Zh he;have HN:=Zh hn
  have hnl:n≤16384:=by
   have:=congrArg List.length he;rw [List.length_map,Yp,List.length_map,List.length_reverse] at this;have:=HL.out;omega
  have q3:=(HQ.out wr hb).q3;have q4:=(HQ.out wr hb).q4;have q7:=(HQ.out wr hb).q7
  by_cases hqs:q=s
  · subst hqs
    have HM:=Zh (show hs.map (Qte N ls av)=M.reverse from by
     cases hv with
     | start=>simpa using he
     | step _ _ h3 _ _=>exact absurd rfl h3)
    have HRV:=Zh (rev_ok A n c w.heap.size M wr ho hb.size (by omega));clear hv he ho hb hn q4 q7
    go_wp2_with fail
    with_reducible refine HRV.out.mono ?_
    rintro e w2 ⟨rfl,hr,hb2⟩;have HR:=Zh hr;have HB2:=Zh (HBW.out.trans hb2);clear hr hb2
    go_wp2_with fail
    go_ret
    exact ⟨⟨A,n,c,rfl,by rw [HM.out];exact HR.out,hnl,fun b hb=>(HO.out.lt b hb).1⟩,HB2.out⟩
  · obtain ⟨p,h2,cp,d,hv2,hh1,hbq,hst⟩:∃ p h2 cp d,Via N ls av s bf dn p cp h2∧h1=h2 ++[(p,q)]∧bf[q]?=some ((p:Nat):Int)∧HSt N ls av p q d:=by
     cases hv with
     | start=>exact absurd rfl hqs
     | step h1 h2 h3 h4 h5=>exact ⟨_,_,_,_,h1,rfl,h4,h5⟩
    have HME:=Zh (show Qqr N ls av s bf dn p<Qqr N ls av s bf dn q by rw [Qph hv,Qph hv2,hh1,Yp,List.length_singleton];omega)
    have HV2:=Zh hv2;have HE2:=Zh (show hs.map (Qte N ls av)=h2.map (Qte N ls av) ++(M ++[Qte N ls av (p,q)]).reverse by rw [he,hh1];simp)
    obtain ⟨xp,hxp⟩:=hv2.ar HS0.out;have HLVp:=Zh (HLV.out wr hb p xp hxp);have hql:=(Zs hbq).1;have hqn:(q:Int)<(na:Int):=by have:=HLB.out;omega
    have hq0:(0:Int)≤(q:Int):=by omega
    have hne:¬(q:Int)=(s:Int):=by omega
    have k7:=(HB.out.below hb HB.out.lt).cellI hbq;obtain ⟨lv,hlv⟩:∃ lv,lv=Qfy ls (toV N p) av:=⟨_,rfl⟩;rw [←hlv] at HLVp;have HVV:=Zh (show Qte N ls av (p,q)=(lv,p,q) by rw [hlv];rfl)
    have HBQ:=Zh hbq;clear hv he ho hb hn hv2 hh1 hst hbq hxp hlv
    go_wp2_with fail
    with_reducible refine HLVp.out.mono ?_
    rintro e w2 ⟨rfl,hb2⟩;obtain ⟨W2,hW2⟩:∃ W2,W2=w2.alloc (.cells #[.int .i64 (lv:Nat),.int .i64 (p:Nat),.int .i64 (q:Nat)] 100):=⟨_,rfl⟩;have hbW:Below wr.heap.size wr W2:=by rw [hW2];exact hb2.alloc hb2.size _
    have hrdW:Rds W2 3 (some ⟨w2.heap.size,0,none⟩) 1 (Qqo [(lv,p,q)]):=by rw [hW2];exact (Blk.new w2 100 #[.int .i64 (lv:Nat),.int .i64 (p:Nat),.int .i64 (q:Nat)]).rds rfl
    have hownW:=HO.out.below hbW;have hszW:w.heap.size≤W2.heap.size:=Yx HBW.out.size hbW.size;have HBW2:=Zh (Zb HBW.out hbW);have hone:∀ u∈Qqo [(lv,p,q)],u.oneCell'=true:=by rw [Qia];exact Qsk _
    have HW2:=Zh hW2;clear hW2 hb2 hbW k7 q3 q4 q7
    go_wp2_with (at_builtin;rw [←HW2.out];with_reducible refine Qan rfl (.tmp 30) (.tmp 37) 89 rfl 100 _ 3 24 infoHop underlying89 rfl (by omega) rfl rfl hownW hrdW hone (by omega) (by omega) hszW ?_)
    intro A' c' w3 ho3 hg3 hat3;have hb3:Below w.heap.size w w3:=Zo HBW2.out hg3 hownW hszW;have q7:=(HQ.out w3 hb3).q7;have k7:=(HB.out.below hb3 HB.out.lt).cellI HBQ.out;have HO3:=Zh ho3;have HB3:=Zh hb3;clear hownW hrdW hszW ho3 hg3 hat3 hb3
    go_wp2_with fail
    go_roundw
    case rel=>exact ⟨p,_,h2,A',n+1,c',M ++[Qte N ls av (p,q)],rfl,rfl,HV2.out,HE2.out,by rw [Yp,HN.out];rfl,by rw [HVV.out,Qhp];exact HO3.out,HB3.out⟩
    case measure=>exact HME.out
end Go.Proofs.YtdheeddnkdhfeaaGreatDoor
namespace Go.Proofs.YtdheeddnkdhfeaaGreatDoor
open Go.RowKit Go.Proofs.Tryz
attribute [local go_sem ↓] Go.wp_at_zero Go.wp_at_succ
theorem Qdh.ex {N:Qak} {ls:List (List Int)} {cl:List Int} (hok:Qas N) (hP:Qbc N.vs.length ls) (h:Qdh N ls cl) (j:Nat) (l:List Int) (a b:Nat) (y z:Tri) (hl:ls[j]?=some l) (hy:N.ar[a]?=some y) (hz:N.ar[b]?=some z) (h1:Qad l y.1≠Qad l y.2.1) (h2:Qad l z.1=Qad l y.2.1) (h3:Qad l z.2.1≠Qad l y.2.1):∃ v,Qgx N (Qeu l (Qad l y.2.1)) a b v:=by
 obtain ⟨_,_,_,_,v,_,_,_,_,_,_,hv⟩:=h.ent hok hP hl hy hz h1 h2 h3;exact ⟨v,hv⟩
theorem next_ok (w:World)(qb g o:Nat)(N:Qak) (ls:List (List Int)) (s t:Nat) (CA:Option Addr) (NC cC:Nat) (cl:List Int) (Q:Option Addr) (L cq mb bb na a:Nat) (y:Tri) (av:List Int) (G:Nat→Prop) (n:Nat) (f:Nat→Nat→Option Value) (h:QR (msk w G) qb g o N ls s t CA NC cC cl Q L cq mb bb na) (hGm:¬G mb)
 (hm:MpQ w mb n f) (hn:n≤1000000) (hmc:MpC w G N.ar ls f) (hok:Qas N) (hP:Qbc N.vs.length ls) (hA:Qdh N ls cl) (hcc:NC≤cC∧cC≤9223372036854775807) (hSm:Qca (gatesOf N.ar ls)≤1000000000) (hy:N.ar[a]?=some y) (hg:Raq N ls av a) :
 Calls prog 104 #[.pointer (some ⟨qb,0,none⟩),.int .i64 ((Qfy ls (toV N a) av:Nat):Int),.int .i64 a] w (NxtR w G mb n N ls av a):=by
 cases hJ:Qfy ls (toV N a) av with
 | succ j=>exact next1_ok w qb g o N ls s t CA NC cC cl Q L cq mb bb na a (j+1) j y av G n f h hGm hm hn hmc hok hP hA hcc hSm hy hg hJ rfl
 | zero =>
  refine (next0_ok w qb g o N ls s t CA NC cC cl Q L cq mb bb na a y (h.le (Qbd _ _)) hok hy).mono ?_;rintro e w' ⟨O,C,nO,cO,cC',rfl,h1,h2,h3,hb⟩;have hx:Nxw mb w w':=Nxw.below hb hm.lt;have hle:Le (msk w' (fun b=>w.heap.size≤b∧b<w'.heap.size)) (msk w' (G2 G w w')):=Qbe (fun _ hb=>.inr hb);exact ⟨O,C,nO,cO,cC',n,_,_,f,rfl,Qyi hok hy hJ,h1.le hle,h2.le hle,hm.below hb,by omega,hmc.le (G2.le hx hGm),hx,h3⟩
theorem Qyf {c v w:Int}(hc:0≤c)(hv:0≤v)(hw:0≤w)(h:1152921504606846976≤v∨1152921504606846976≤w):Qdz (Qdz c v) w=1152921504606846976:=by
 unfold Qdz
 split <;> split <;> omega
theorem addR_sum {c v w:Int}(hw:0≤w) (h:c+(v+w)<1152921504606846976):Qdz (Qdz c v) w=c+(v+w):=by
 unfold Qdz
 split <;> split <;> omega
def RunO (w:World)(N:Qak) (ls:List (List Int)) (av:List Int) (s t:Nat) (e:Ending) (w':World):Prop :=
 ∃ v A n c hs,e=.returned (.tuple #[.int .i64 v,.slice A n c])∧RunP N ls av s t v hs∧RdH w' A n (hs.map (Qte N ls av))∧n≤16384∧∀ b,Qac A=some b→w.heap.size≤b
set_option maxRecDepth 20000 in
set_option maxHeartbeats 4000000 in
theorem run_ok (w:World)(qb g o:Nat)(N:Qak) (ls:List (List Int)) (s t:Nat) (CA:Option Addr) (NC cC:Nat) (cl:List Int) (Q:Option Addr) (L cq mb bb na B:Nat) (xs xt:Tri) (h:QR (msk w (fun b=>b<w.heap.size∧b≠bb∧b≠mb)) qb g o N ls s t CA NC cC cl Q L cq mb bb na)
 (hm:MpQ w mb 0 (fun _ _=>none)) (hB:Blk w bb 3 (Qcs (List.replicate na 0))) (hok:Qas N) (hP:Qbc N.vs.length ls) (hA:Qdh N ls cl) (hcc:NC≤cC∧cC≤9223372036854775807) (hSm:Qca (gatesOf N.ar ls)≤1000000000) (hxs:N.ar[s]?=some xs) (hxt:N.ar[t]?=some xt) (hna:na=N.ar.length) (hBB:B≤mb∧B≤bb∧mb≠bb) :
 Calls prog 47 #[.pointer (some ⟨qb,0,none⟩)] w fun e w'=>RunO w N ls [toV N s,frV N t] s t e w'∧Below B w w':=by
 obtain ⟨av,hav⟩:∃ av,av=[toV N s,frV N t]:=⟨_,rfl⟩;have hE:=hA.ex hok hP;have hsn:s<na:=by rw [hna];exact (Zs hxs).1
 have htn:t<na:=by rw [hna];exact (Zs hxt).1
 have hna4:na≤16384:=by rw [hna];exact hok.la
 have HAV:=Zh (show toV N s∈av∧frV N t∈av by rw [hav];simp)
 have HE:=Zh hE;have HOK:=Zh hok;have HP:=Zh hP;have HNA:=Zh hna;have HXS:=Zh hxs;have HBB:=Zh hBB;have hmk:=Qov na (by omega);obtain ⟨G0,hG0⟩:∃ G0:Nat→Prop,G0=fun b=>b<w.heap.size∧b≠bb∧b≠mb:=⟨_,rfl⟩
 rw [←hG0] at h;have HQ:=Zh h;have HM:=Zh hm;have HB:=Zh hB
 have HG0:=Zh (show (∀ b,G0 b→b<w.heap.size)∧¬G0 mb∧¬G0 bb∧∀ b,b<B→G0 b from by
  have:=hm.lt;subst hG0;exact ⟨fun b h=>h.1,fun h=>h.2.2 rfl,fun h=>h.2.1 rfl,fun b h=>⟨by omega,by omega,by omega⟩⟩)
 clear hG0
 have HLV:=Zh (show ∀ V,QR V qb g o N ls s t CA NC cC cl Q L cq mb bb na→∀ (p:Nat) (x:Tri),N.ar[p]?=some x→Calls prog 105 #[.pointer (some ⟨qb,0,none⟩),.int .i64 p] V fun e w'=>e=.returned (.int .i64 ((Qfy ls (toV N p) av:Nat):Int))∧Below V.heap.size V w' from fun V hV p x hx=>by
  rw [hav];exact Qpf V qb g o N ls s t CA NC cC cl Q L cq mb bb na p x xs xt hV hok hP hx hxs hxt)
 have HNX:=Zh (fun (V:World) (G:Nat→Prop) (n a:Nat) (f:Nat→Nat→Option Value) (y:Tri) (hV:QR (msk V G) qb g o N ls s t CA NC cC cl Q L cq mb bb na) (hGm:¬G mb) (hm:MpQ V mb n f) (hn:n≤1000000) (hmc:MpC V G N.ar ls f) (hy:N.ar[a]?=some y) (hg:Raq N ls av a)=>next_ok V qb g o N ls s t CA NC cC cl Q L cq mb bb na a y av G n f hV hGm hm hn hmc hok hP hA hcc hSm hy hg)
 have HHP:=Zh (show ∀ (V:World) (bf:List Int) (dn:Nat→Option Int) (c0:Int) (hs:List (Nat×Nat)),QR V qb g o N ls s t CA NC cC cl Q L cq mb bb na→Blk V bb 3 (Qcs bf)→bf.length=na→Via N ls av s bf dn t c0 hs→hs.length≤16384→Calls prog 103 #[.pointer (some ⟨qb,0,none⟩)] V fun e w'=>(∃ A n c,e=.returned (.slice A n c)∧RdH w' A n (hs.map (Qte N ls av))∧n≤16384∧∀ b,Qac A=some b→V.heap.size≤b)∧Below V.heap.size V w' from fun V bf dn c0 hs h1 h2 h3 h4 h5=>by
  rw [hav] at h4 ⊢;exact hops_ok V qb g o N ls s t CA NC cC cl Q L cq mb bb na bf dn c0 hs xs xt h1 hok hP hxs hxt h2 h3 hna h4 h5)
 rw [←hav];clear hav;have HWE:=Zh (fun (V:World) (hV:Qen V g N) (b:Nat) (y:Tri) (hy:N.ar[b]?=some y)=>Qeb g b N y V hV hy);have hw9:=(Qbq hxs).2.2;obtain ⟨z0,hz0⟩:∃ z,z=xs.2.2:=⟨_,rfl⟩;have hzb:=Qdw (hok.arcs xs (Zm hxs)).w;have HZS:=Zh (show wV N s=z0 by rw [hw9,hz0])
 rw [←hz0] at hzb;have HW0:=Zh (show Calls prog 83 #[.pointer (some ⟨g,0,none⟩),.int .i64 s] w.drew fun e w'=>e=.returned (.int .i64 z0)∧w.drew=w' from by rw [hz0];exact HWE.out _ ((h.gr.le (Qbd _ _)).below (Zr _ _).drew) s xs hxs)
 have hq:=h.le (Qbd _ _);have HSX:=Zh (show ∀ V,V=w.drew→V.cell? ⟨qb,0,none⟩=some (.pointer (some ⟨g,0,none⟩))∧V.cell? ⟨qb,3,none⟩=some (.int .i64 s) from fun V hV=>by subst hV;exact ⟨hq.q0,hq.q3⟩)
 have q7:=hq.q7;have q3:=hq.q3;have hql:=Qah q7;simp only at hql;clear h hm hB hok hP hA hcc hSm hxs hxt hna hBB hE hw9 hz0 hq
 go_enter func47,ntmps47
 go_wp2_with fail
 refine wp_region_held_drew (S:=fun V=>V=w.drew) (by kernel_rfl) rfl (fun _=>?_);refine tz 0 14 ?_;refine tz 1 15 ?_;refine tz 2 16 ?_;refine tz 3 17 ?_;refine tz 4 18 ?_;refine tz 5 19 ?_;refine tz 6 20 ?_;refine tz 7 21 ?_;refine Zk 8 (fun K hK=>?_);go_simp;with_reducible refine HW0.out.mono ?_
 rintro r w' ⟨rfl,rfl⟩;go_simp;refine hK.out _ _ rfl (fun _=>?_);clear hK K;refine tz 9 23 ?_;refine Zd ?_;clear HW0 HSX
 by_cases hinf:z0=1152921504606846976
 · have e1:(1152921504606846976:Int)≤z0:=by omega
   have HBd:=Zh ((Zr B w).drew)
   go_wp2_with fail
   refine bodyPost_ret (v:=.tuple #[.int .i64 1152921504606846976,.slice none 0 0]) (by simp [results,results47,go_sem]) rfl ?_;exact ⟨⟨_,none,0,0,[],rfl,.inl ⟨by rw [HZS.out];exact hinf,rfl,rfl⟩,⟨rfl,fun i x h=>by simp at h⟩,by omega,fun b hb=>by cases hb⟩,HBd.out⟩
 have e1:¬(1152921504606846976:Int)≤z0:=by omega
 have HNI:=Zh (show wV N s≠1152921504606846976 by rw [HZS.out];exact hinf)
 clear hinf hzb
 go_wp2_with fail
 (refine Qab ?_;intro w1 hw1)
 have hb1:Below w.heap.size w w1:=by rw [hw1];exact Qag
 obtain ⟨db,hdb⟩:∃ db,db=w.heap.size:=⟨_,rfl⟩;have D1:Blk w1 db 4 (Qgk (List.replicate na false)):=by rw [hw1,hdb,←Qnj];exact Qay
 have HZ1:=Zh (show w1.heap.size=db+1 by rw [hw1,hdb];simp)
 have x7:=Zc hb1 (Zn _) q7;have HHN:=Zh (Qsz w1 na hna4);have HD1:=Zh D1;have HB1:=Zh hb1;have HDB:=Zh hdb;rw [←hdb];clear hw1 D1 hb1 hdb q7 hmk hql;with_reducible refine HHN.out.mono ?_
 rintro r w2 ⟨gh,rfl,hh,hb2⟩;have x3:=Zc (Zb HB1.out hb2) (Zn _) q3
 have HW2:=Zh (show Qop w2 G0 qb g o N ls s t CA NC cC cl Q L cq mb bb db gh na 0 (fun _ _=>none) (List.replicate na 0) (List.replicate na false) (fun _=>none) from by
  have hb02:=Zb HB1.out hb2;have hle:Le (msk w G0) (msk w2 G0):=Qbb.msk (Qbb.below hb02);have g1:=HG0.out;have g2:=HM.out.lt;have g3:=HB.out.lt;have g4:=HDB.out;have g5:=HZ1.out;have g6:=hb02.size;refine ⟨HQ.out.le hle,HM.out.below hb02,fun i k u hu=>(by cases hu),HB.out.below hb02 g3,HD1.out.below hb2 HD1.out.lt,hh.less (fun b hb=>?_),fun b hb=>?_,⟨g1.2.1,g1.2.2.1,fun h=>?_,HBB.out.2.2,by omega,by omega⟩,by omega⟩
  · rcases hb with h1|rfl|rfl|rfl
    · have:=g1.1 b h1;omega
    all_goals omega
  · have:=g1.1 b hb;omega
  · have:=g1.1 _ h;omega)
 have HPU:=Zh (Qjx w2 _ HW2.out.hh s hsn 0 (by omega) (by omega));have HB2:=Zh ((Zb HB1.out hb2).mono (show B≤w.heap.size by have:=HBB.out.1;have:=HM.out.lt;omega))
 clear hh hb2 q3 x7 HHN HD1
 go_wp2_with fail
 with_reducible refine HPU.out.mono ?_
 rintro r w3 ⟨rfl,hh3,ha3⟩;have HW3:=Zh (HW2.out.heap hh3 ha3);have HB3:=Zh (HB2.out.trans (ha3.bel B (fun b hb=>.inl (HG0.out.2.2.2 b hb))));have HI3:=Zh (Qux.init (N:=N) (ls:=ls) (av:=av) (s:=s) (t:=t) (na:=na));clear hh3 ha3 x3 HPU HW2 HB2
 go_wp2_with fail
 go_loopw [] (fun W=>∃ (G:Nat→Prop) (n:Nat) (f:Nat→Nat→Option Value) (bf:List Int) (dnf hp:Nat→Option Int) (dn:List Bool),Qop W G qb g o N ls s t CA NC cC cl Q L cq mb bb db gh na n f bf dn hp∧Qux N ls av s t na dnf hp dn bf∧(∀ b,b<B→G b)∧Below B w W) (fun W=>na-doneW db W)
 case atStart=>exact ⟨_,_,_,_,_,_,_,HW3.out,HI3.out,HG0.out.2.2.2,HB3.out⟩
 case round =>
  clear HW3 HI3 HB3;obtain ⟨G,n,f,bf,dnf,hp,dn,hw,hi,hG,hb⟩:=hrel;have HWr:=Zh hw;have HIr:=Zh hi;have HGr:=Zh hG;have HBr:=Zh hb;have HPO:=Zh (Qub wr hp hw.hh);clear hw hi hG hb
  go_wp2_with fail
  with_reducible refine HPO.out.mono ?_
  rintro e w7 ⟨h7,ha7⟩;have HB7:=Zh (HBr.out.trans (ha7.bel B (fun b hb=>.inl (HGr.out b hb))));have HA7:=Zh ha7;clear ha7
  rcases h7 with ⟨hno,rfl,hh⟩|⟨k,z,hkn,hkz,hmin,rfl,hh⟩
  · have HD:=Zh (HIr.out.miss HOK.out hno)
    clear hno hh
    go_wp2_with fail
    refine bodyPost_ret (v:=.tuple #[.int .i64 1152921504606846976,.slice none 0 0]) (by simp [results,results47,go_sem]) rfl ?_;exact ⟨⟨_,none,0,0,[],rfl,.inr ⟨HNI.out,HD.out,.inl ⟨rfl,rfl⟩⟩,⟨rfl,fun i x h=>by simp at h⟩,by omega,fun b hb=>by cases hb⟩,HB7.out⟩
  · have HW7:=Zh (HWr.out.heap hh HA7.out)
    have HMI:=Zh hmin;have HKZ:=Zh hkz;have q4:=(HW7.out.qr.le (Qbd _ _)).q4;clear hh hmin hkz
    by_cases hkt:k=t
    · subst hkt
      have HD:=Zh (HIr.out.hit HOK.out HKZ.out HMI.out);obtain ⟨hs,hvia,hlen⟩:=HIr.out.via.wait k z HKZ.out;have hcl:=Qjr dn;have HHO:=Zh (HHP.out w7 bf dnf z hs (HW7.out.qr.le (Qbd _ _)) HW7.out.bfB HIr.out.lb hvia (by have:=HIr.out.ld;omega));have HVI:=Zh hvia;clear hvia hlen hcl
      go_wp2_with fail
      with_reducible refine HHO.out.mono ?_
      rintro e w8 ⟨⟨A,n',c,rfl,hr,hn',hgt⟩,hb8⟩;have HR:=Zh hr;have HB8:=Zh (HB7.out.trans (hb8.mono (Yx (show B≤w.heap.size by have:=HBB.out.1;have:=HM.out.lt;omega) HB7.out.size)))
      clear hr hb8
      go_wp2_with fail
      refine bodyPost_ret (v:=.tuple #[.int .i64 z,.slice A n' c]) (by simp [results,results47,go_sem]) rfl ?_;exact ⟨⟨z,A,n',c,hs,rfl,.inr ⟨HNI.out,HD.out,.inr HVI.out.hopP⟩,HR.out,hn',fun b hb=>Yx HB7.out.size (hgt b hb)⟩,HB8.out⟩
    · have hne:¬(k:Int)=(t:Int):=by omega
      have hfree:=HIr.out.free hkn HKZ.out;have HKT:=Zh hkt;obtain ⟨xk,hxk⟩:∃ xk,N.ar[k]?=some xk:=⟨_,Zg (by rw [←HNA.out];exact hkn)⟩;have HXK:=Zh hxk;have hkl:k<dn.length:=by rw [HIr.out.ld];exact hkn
      have dk:=HW7.out.dd.cellB (i:=k) (Qbp false hkl);have df:=HW7.out.dd.frozen k;have HW8:=Zh (HW7.out.done k);have HDK:=Zh hfree.2;have HKL:=Zh hkl;have HB8:=Zh (HB7.out.setCell (p:=⟨db,k,none⟩) (by show B≤db;have:=HDB.out;have:=HBB.out.1;have:=HM.out.lt;omega) (.bool true))
      have hkn':(k:Int)<(na:Int):=by omega
      have hk0:(0:Int)≤(k:Int):=by omega
      clear hkt hfree hxk hkl
      go_wp2_with fail
      (refine Qab ?_;intro w8 hw8)
      rw [←hw8] at HW8 HB8;clear hw8 q4 dk df;with_reducible refine (HLV.out w8 (HW8.out.qr.le (Qbd _ _)) k xk HXK.out).mono ?_
      rintro e w9 ⟨rfl,hb9⟩;have HW9:=Zh (HW8.out.below hb9);have HB9:=Zh (HB8.out.trans (hb9.mono (Nat.le_of_lt (Nat.lt_of_le_of_lt HBB.out.1 HW8.out.mq.lt))));have HTK:=Zh (fun os cs=>HIr.out.take (os:=os) (cs:=cs) HOK.out HP.out HE.out ⟨_,HXS.out⟩ HAV.out.1 hkn HKZ.out HMI.out HKT.out);have hcl:=Qjr (dn.set k true);rw [Yq,HIr.out.ld] at hcl;have hnn:=HW9.out.nn;have HNO:=Zh (HNX.out w9 G n k f xk HW9.out.qr HW9.out.nb.1 HW9.out.mq (by omega) HW9.out.mc HXK.out (HTK.out [] []).2);clear hb9 hcl hnn HW8 HB8
      go_wp2_with fail
      with_reducible refine HNO.out.mono ?_
      rintro e w10 ⟨O,C,nO,cO,cC',n',os,cs,f',rfl,hnp,hO,hC,hmq,hn',hmc,hx,hnO⟩;have HNN:=Zh (show n'≤(dn.set k true).countP (fun b=>b) by have:=HWr.out.nn;rw [Qek HKL.out HDK.out];omega)
      have HW10:=Zh (HW9.out.nxt hx hmq hmc HNN.out);have HB10:=Zh (HB9.out.trans (hx.bel B HBB.out.1));have HJ10:=Zh (HTK.out os cs).1;obtain ⟨GG,hGG⟩:∃ GG,GG=G2 G w9 w10:=⟨_,rfl⟩;rw [←hGG] at HW10 hO hC;have HGG:=Zh (show ∀ b,b<B→GG b from fun b hb=>by rw [hGG];exact .inl (HGr.out b hb))
      have HO:=Zh hO;have HC:=Zh hC;have HNP:=Zh hnp;clear hGG hO hC hnp hmq hn' hmc hx HNO HTK HW9 HB9
      go_wp2_with fail
      obtain ⟨wi,hwi⟩:∃ wi,wi=w10:=⟨_,rfl⟩;subst hwi
      go_loopw [73] (fun ui V=>∃ (i:Nat) (hp2:Nat→Option Int) (bf2:List Int),i≤nO∧ui=.int .i64 i∧Qop V GG qb g o N ls s t CA NC cC cl Q L cq mb bb db gh na n' f' bf2 (dn.set k true) hp2∧Qsa N ls av s t na k z os cs i (fun q=>if q=k then some z else dnf q) hp2 (dn.set k true) bf2∧Le (msk wi GG) (msk V GG)∧Below B w V) (fun ui _=>nO-(intOf ui).toNat)
      case atStart=>exact ⟨0,_,_,Nat.zero_le _,rfl,HW10.out,HJ10.out,fun _ _ h=>h,HB10.out⟩
      case round =>
       clear HW10 HJ10 HB10;obtain ⟨i,hp2,bf2,hin,rfl,hw,hj,hle,hb⟩:=hrel;have HWi:=Zh hw;have HJi:=Zh hj;have HLi:=Zh hle;have HBi:=Zh hb;clear hw hj hle hb
       by_cases hlt:i<nO
       rotate_left
       · obtain rfl:i=nO:=by omega
         have j2:¬((i:Int)<(i:Int)):=by omega
         have HIN:=Zh (HJi.out.all HNP.out (by rw [HO.out.1];exact Zn _))
         go_wp2_with fail
         go_roundw
         case rel=>exact ⟨GG,n',f',bf2,_,hp2,_,HWi.out,HIN.out,HGG.out,HBi.out⟩
         case measure =>
          rw [Qjv HWi.out.dd,Qjv HWr.out.dd,Qek HKL.out HDK.out];have h1:=Qjr (dn.set k true);rw [Qek HKL.out HDK.out,Yq,HIr.out.ld] at h1;omega
       obtain ⟨ob,oo,zb,rfl,hzb,cO1⟩:=((HO.out.le HLi.out).le (Qbd _ _)).at_ hlt;obtain ⟨pb,po,v,rfl,hv,cC1⟩:=((HC.out.le HLi.out).le (Qbd _ _)).at_ hlt;obtain ⟨b,y,rfl,hy,hv0,hv9,hst⟩:=HNP.out.to_ i zb v hzb hv;have hyw:=Qdw (HOK.out.arcs y (Zm hy)).w;have hbn:b<na:=by rw [HNA.out];exact (Zs hy).1
       obtain ⟨wy,hwy⟩:∃ wy,wy=y.2.2:=⟨_,rfl⟩;rw [←hwy] at hyw;have hz0:=HJi.out.c0;have hzM:z≤70373039144960:=hz0.2;have j0:(0:Int)≤(i:Int):=by omega
       have j1:(i:Int)<(nO:Int):=by omega
       have q0:=(HWi.out.qr.le (Qbd _ _)).q0;have HSX:=Zh (show ∀ V,Below wr.heap.size wr V→V.cell? ⟨pb,po+i,none⟩=some (.int .i64 v)∧V.cell? ⟨qb,0,none⟩=some (.pointer (some ⟨g,0,none⟩)) from fun V hV=>⟨Zc hV (Zn _) cC1,Zc hV (Zn _) q0⟩)
       have HGW:=Zh (show Calls prog 83 #[.pointer (some ⟨g,0,none⟩),.int .i64 b] wr.drew fun e w'=>e=.returned (.int .i64 wy)∧wr.drew=w' from by rw [hwy];exact HWE.out _ ((HWi.out.qr.gr.le (Qbd _ _)).below (Zr _ _).drew) b y hy)
       obtain ⟨w11,hw11⟩:∃ w11,w11=(wr.alloc (.cells #[.int .i64 z,.int .i64 v,.int .i64 wy] 2)).drew:=⟨_,rfl⟩;have hb11:Below wr.heap.size wr w11:=by rw [hw11];exact ((Zr _ _).alloc (Zn _) _).drew
       have hrd:RdI w11 (some ⟨wr.heap.size,0,none⟩) 3 [z,v,wy]:=by rw [hw11];exact Blk.rdI (t:=2) (l:=[z,v,wy]) (Blk.new wr 2 (Qcs [z,v,wy])).drew rfl
       have HSU:=Zh (Qsh _ 3 w11 z v wy hrd ⟨hz0.1,by omega⟩ ⟨hv0,hv9⟩ ⟨by omega,by omega⟩);obtain ⟨far,hfar⟩:∃ far,far=Qdz (Qdz z v) wy:=⟨_,rfl⟩;rw [←hfar] at HSU;have HFR:=Zh hfar;have HWY:=Zh hwy;have HY:=Zh hy;have HZB:=Zh hzb;have HV:=Zh hv;have HST:=Zh hst;have HB11:=Zh hb11;have HW11:=Zh hw11;have HYW:=Zh hyw;clear hzb hv hy hst hwy hfar hb11 hw11 hrd hyw
       go_wp2_with fail
       refine wp_region_held_drew (S:=fun V=>Below wr.heap.size wr V) (by kernel_rfl) (Zr _ _).drew (fun _=>?_);refine tz 0 78 ?_;refine tz 1 79 ?_;refine tz 2 80 ?_;refine tz 3 81 ?_;refine tz 4 82 ?_;refine tz 5 83 ?_;refine tz 6 84 ?_;refine tz 7 85 ?_;refine tz 8 86 ?_;refine tz 9 87 ?_;refine Zk 10 (fun K hK=>?_);go_simp;with_reducible refine HGW.out.mono ?_
       rintro e w' ⟨rfl,rfl⟩;go_simp;refine hK.out _ _ (Zr _ _).drew (fun _=>?_);clear hK K;refine Zk 11 (fun K hK=>?_);go_simp;rw [←HW11.out];refine hK.out _ _ HB11.out (fun _=>?_);clear hK K;refine Zk 12 (fun K hK=>?_);go_simp;with_reducible refine HSU.out.mono ?_
       rintro e w' ⟨rfl,rfl⟩;go_simp;refine hK.out _ _ HB11.out (fun _=>?_);clear hK K;refine tz 13 13 ?_;refine Zd ?_;have HWj:=Zh (HWi.out.below HB11.out);have HLj:=Zh (HLi.out.trans (Qbb.msk (G:=GG) (Qbb.below HB11.out)));have HBj:=Zh (HBi.out.trans (HB11.out.mono (Nat.le_of_lt (Nat.lt_of_le_of_lt HBB.out.1 HWi.out.mq.lt))));clear HSX HGW HSU HW11 cO1 cC1 q0
       by_cases hno:v=1152921504606846976∨wy=1152921504606846976
       · have hff:¬far<1152921504606846976:=by
          have:=HYW.out;rw [HFR.out,Qyf hz0.1 hv0 (by omega) (by omega)];omega
         have HJX:=Zh (HJi.out.skip HZB.out HV.out HY.out (by rw [←HWY.out];exact hno));have HWX:=HWj;have HLX:=HLj;have HBX:=HBj;clear hno
         go_wp2_with fail
         go_roundw
         case rel=>exact ⟨i+1,_,_,by omega,by go_num,HWX.out,HJX.out,HLX.out,HBX.out⟩
         case measure=>simp [intOf];omega
       · have HS:=Zh (HST.out (fun e=>hno (.inl e)) (fun e=>hno (.inr (by rw [HWY.out];exact e))))
         have hsb:=HS.out.bd HOK.out;rw [←HWY.out] at hsb;have hyw:=HYW.out;have hfe:far=z+(v+wy):=by rw [HFR.out,addR_sum (by omega) (by omega)]
         have hff:far<1152921504606846976:=by omega
         have hf0:0≤far:=by omega
         have HFE:=Zh hfe;have hbl:b<(dn.set k true).length:=by rw [HJi.out.ld];exact hbn
         have db0:=HWj.out.dd.cellB (i:=b) (Qbp false hbl);have k0:(0:Int)≤(b:Int):=by omega
         have k1:(b:Int)<(na:Int):=by omega
         obtain ⟨dd,hdd⟩:∃ dd,dd=(dn.set k true).getD b false:=⟨_,rfl⟩;rw [←hdd] at db0;have HDD:=Zh hdd;clear hno hsb hyw hfe hbl hdd
         cases dd with
         | true =>
          have HJX:=Zh (HJi.out.off HZB.out HV.out HY.out HS.out hbn HDD.out.symm);have HWX:=HWj;have HLX:=HLj;have HBX:=HBj
          go_wp2_with fail
          go_roundw
          case rel=>exact ⟨i+1,_,_,by omega,by go_num,HWX.out,HJX.out,HLX.out,HBX.out⟩
          case measure=>simp [intOf];omega
         | false =>
          have hput:=HJi.out.put HOK.out HZB.out HV.out HY.out HS.out hbn HDD.out.symm;rw [←HWY.out,←HFE.out] at hput;have HJP:=Zh hput;have HPU:=Zh (Qjx w11 hp2 HWj.out.hh b hbn far hf0 (by omega));obtain ⟨pb2,hpb2⟩:∃ x,x=Qwx hp2 b far:=⟨_,rfl⟩;rw [←hpb2] at HPU HJP;clear hput
          go_wp2_with fail
          with_reducible refine HPU.out.mono ?_
          rintro e w12 ⟨rfl,hh12,ha12⟩;have HW12:=Zh (HWj.out.heap hh12 ha12);have HL12:=Zh (HLj.out.trans (Qbb.msk (G:=GG) (ha12.kept.mono (fun _ hb=>.inl hb))));have HB12:=Zh (HBj.out.trans (ha12.bel B (fun b hb=>.inl (HGG.out b hb))));clear hh12 ha12 HPU hpb2 db0
          cases pb2 with
          | false =>
           have HJX:=Zh (show Qsa N ls av s t na k z os cs (i+1) (fun q=>if q=k then some z else dnf q) (Qix hp2 b far) (dn.set k true) bf2 from HJP.out)
           have HWX:=HW12;have HLX:=HL12;have HBX:=HB12
           go_wp2_with fail
           go_roundw
           case rel=>exact ⟨i+1,_,_,by omega,by go_num,HWX.out,HJX.out,HLX.out,HBX.out⟩
           case measure=>simp [intOf];omega
          | true =>
           have q7:=(HW12.out.qr.le (Qbd _ _)).q7;have hbb2:b<bf2.length:=by rw [HJi.out.lb];exact hbn
           obtain ⟨ov,hov⟩:∃ ov,bf2[b]?=some ov:=⟨_,Zg hbb2⟩;have b0:=HW12.out.bfB.cellI hov;have bz:=HW12.out.bfB.frozen b;have HJX:=Zh (show Qsa N ls av s t na k z os cs (i+1) (fun q=>if q=k then some z else dnf q) (Qix hp2 b far) (dn.set k true) (bf2.set b (k:Int)) from HJP.out)
           have HWX:=Zh (HW12.out.bef b k);have HLX:=Zh (HL12.out.trans (Qbb.msk (G:=GG) (Qbb.set w12 bb b (.int .i64 (k:Int)) HW12.out.nb.2.1)));have HBX:=Zh (HB12.out.setCell (p:=⟨bb,b,none⟩) HBB.out.2.1 (.int .i64 (k:Int)));clear hov hbb2
           go_wp2_with fail
           go_roundw
           case rel=>exact ⟨i+1,_,_,by omega,by go_num,HWX.out,HJX.out,HLX.out,HBX.out⟩
           case measure=>simp [intOf];omega
def FromP (N:Qak)(s:Nat)(dl:List Int):Prop:=(wV N s=1152921504606846976∧dl=List.replicate N.ar.length 1152921504606846976)∨(wV N s≠1152921504606846976∧BfF N s dl∧BfG N dl N.ar.length 0)
def FromPost (w:World)(N:Qak)(m s:Nat)(r:Ending)(w':World):Prop:=(∃ (D:Nat) (dl:List Int),r=.returned (.slice (some ⟨D,0,none⟩) m m)∧Blk w' D 2 (Qcs dl)∧dl.length=m∧FromP N s dl)∧Below w.heap.size w w'
set_option maxRecDepth 20000 in
set_option maxHeartbeats 4000000 in
theorem Quu (A B C NX TX:Option Addr)(n m k c d e cx ct s:Nat)(N:Qak)(w:World)(h:Qbg w A B C n m k N)(hok:Qas N) (hnx:RdT w NX m (Qmg N)) (htx:RdT w TX m (Qmi N)) (hs:s<m) :
 Calls prog 53 #[.agg #[.slice A n c,.slice B m d,.slice C k e,.slice NX m cx,.slice TX m ct],.int .i64 s] w (FromPost w N m s):=by
 have HH:=Zh h;have hlm:N.ar.length=m:=h.2.1.1;have hln:N.vs.length=n:=h.1.1;have hm:m≤16384:=by rw [←hlm];exact hok.la
 have HNX:=Zh hnx;have HTX:=Zh htx;have HLM:=Zh hlm;have i1:(0:Int)≤(s:Int):=by omega
 have i2:(s:Int)<(m:Int):=by omega
 have HTB:=Zh (fun a b:Nat=>Qcw hok a b);obtain ⟨ys,hys⟩:∃ y,N.ar[s]?=some y:=⟨_,Zg (by omega)⟩;have HYS:=Zh hys
 have HRW:=Zh (show ∀ a,a<m→∃ nb no na nc tb to_ ta tc,NX=some ⟨nb,no,none⟩∧TX=some ⟨tb,to_,none⟩∧∀ V,Below w.heap.size w V→V.cell? ⟨nb,no+a,none⟩=some (.slice na (Qhe N a).length nc)∧V.cell? ⟨tb,to_+a,none⟩=some (.slice ta (Qhe N a).length tc)∧RdI V na (Qhe N a).length (Qhe N a)∧RdI V ta (Qhe N a).length (Qqu N a) from fun a ha=>by
  obtain ⟨nb,no,na,n1,nc,l1,e1,g1,g2,g3,_,_⟩:=HNX.out.at_ ha;obtain ⟨tb,to_,ta,n2,tc,l2,e2,f1,f2,f3,_,_⟩:=HTX.out.at_ ha;rw [Quo (by rw [HLM.out];exact ha)] at g1
  cases g1
  rw [Qvb (by rw [HLM.out];exact ha)] at f1
  cases f1
  have q1:n1=(Qhe N a).length:=g3.1.symm;have q2:n2=(Qhe N a).length:=by rw [←trn_len];exact f3.1.symm
  subst q1;rw [q2] at f2 f3;exact ⟨nb,no,na,nc,tb,to_,ta,tc,e1,e2,fun V hV=>⟨Zc hV (Zn _) g2,Zc hV (Zn _) f2,g3.below hV,f3.below hV⟩⟩)
 obtain ⟨nb0,no0,_,_,tb0,to0,_,_,rfl,rfl,_⟩:=HRW.out s hs;clear h hnx htx hlm hln hys
 go_enter func53,ntmps53
 go_wp2_with fail
 (refine Qab ?_;intro w1 hw1)
 have hb1:Below w.heap.size w w1:=by rw [hw1];exact Qag
 have hX1:Blk w1 w.heap.size 50 #[.slice A n c,.slice B m d,.slice C k e,.slice (some ⟨nb0,no0,none⟩) m cx,.slice (some ⟨tb0,to0,none⟩) m ct]:=by rw [hw1];refine Blk.new' _ _ _ ?_;rfl
 clear hw1;with_reducible refine (never_ok m w1 (by omega)).mono ?_
 rintro r w2 ⟨rfl,hD2,hb2⟩;obtain ⟨D,hDe⟩:∃ D,D=w1.heap.size:=⟨_,rfl⟩;rw [←hDe] at hD2 ⊢;have HW2:=Zh (show BfW w D #[.slice A n c,.slice B m d,.slice C k e,.slice (some ⟨nb0,no0,none⟩) m cx,.slice (some ⟨tb0,to0,none⟩) m ct] w2 (List.replicate m 1152921504606846976) from ⟨Zb hb1 hb2,hX1.below hb2 hX1.lt,hD2,by rw [hDe];exact hX1.lt⟩)
 clear hDe hD2 hb1 hb2 hX1;have x0:w2.cell? ⟨w.heap.size,0,none⟩=some (.slice A n c):=Zq HW2.out.box;have x1:w2.cell? ⟨w.heap.size,1,none⟩=some (.slice B m d):=Zq HW2.out.box;have x2:w2.cell? ⟨w.heap.size,2,none⟩=some (.slice C k e):=Zq HW2.out.box;have xl:=HW2.out.box.lt
 go_wp2_with fail
 with_reducible refine (Qbx A B C n m k c d e (s:Int) w2 i1 i2).mono ?_
 rintro r w3 ⟨rfl,hb3⟩;have HW3:=Zh (HW2.out.below hb3);clear x0 x1 x2 xl hb3 HW2;obtain ⟨yb,yo,rfl,y0,y1,y2⟩:=(HH.out.below HW3.out.bel).2.1.2 s _ HYS.out;have x1:w3.cell? ⟨w.heap.size,1,none⟩=some (.slice (some ⟨yb,yo,none⟩) m d):=Zq HW3.out.box;have hw3l:=(Qbq HYS.out).2.2;obtain ⟨z0,hz0⟩:∃ z,z=ys.2.2:=⟨_,rfl⟩;rw [←hz0] at y2 hw3l;have HZS:=Zh hw3l;clear y0 y1 hz0 hw3l
 by_cases hinf:z0=1152921504606846976
 · have e1:(z0 == 1152921504606846976)=true:=by simp [hinf]
   go_wp2_with fail
   go_ret
   exact ⟨⟨D,_,rfl,HW3.out.row,by simp,.inl ⟨by rw [HZS.out];exact hinf,by rw [HLM.out]⟩⟩,HW3.out.bel⟩
 have e1:(z0 == 1152921504606846976)=false:=by simp [hinf]
 have HNI:=Zh (show wV N s≠1152921504606846976 by rw [HZS.out];exact hinf)
 have d0:=HW3.out.row.cellI (i:=s) (x:=1152921504606846976) (by rw [List.getElem?_replicate,if_pos hs]);have df:=HW3.out.row.frozen s;have HW4:=Zh (HW3.out.set s 0);have HF0:=Zh (BfF.start (N:=N) (s:=s) (by rw [HLM.out];exact hs));rw [HLM.out] at HF0;clear hinf
 go_wp2_with fail
 clear x1 y2 d0 df
 go_loopw [6] (fun um V=>∃ (dl:List Int) (more:Bool),um=.bool more∧BfW w D #[.slice A n c,.slice (some ⟨yb,yo,none⟩) m d,.slice C k e,.slice (some ⟨nb0,no0,none⟩) m cx,.slice (some ⟨tb0,to0,none⟩) m ct] V dl∧BfF N s dl∧(more=false→BfG N dl m 0)) (fun um V=>2*Qwo (rowOf V D)+(match um with|.bool true=>1|_=>0))
 case atStart=>exact ⟨_,true,rfl,HW4.out,HF0.out,fun h=>by cases h⟩
 case round =>
  clear HW4 HF0 HW3;obtain ⟨dl,more,rfl,hW,hF,hG⟩:=hrel;have HW:=Zh hW;have HF:=Zh hF
  cases more with
  | false =>
   have hg:=hG rfl;clear hW hF hG
   go_wp2_with fail
   go_ret
   exact ⟨⟨D,dl,rfl,HW.out.row,by rw [HF.out.len,HLM.out],.inr ⟨HNI.out,HF.out,by rw [HLM.out];exact hg⟩⟩,HW.out.bel⟩
  | true =>
   clear hW hF hG
   go_wp2_with fail
   go_loopw [6,7] (fun um ua V=>∃ (dl2:List Int) (more:Bool) (a:Nat),a≤m∧um=.bool more∧ua=.int .i64 a∧BfW w D #[.slice A n c,.slice (some ⟨yb,yo,none⟩) m d,.slice C k e,.slice (some ⟨nb0,no0,none⟩) m cx,.slice (some ⟨tb0,to0,none⟩) m ct] V dl2∧BfF N s dl2∧Qwo dl2≤Qwo dl∧(more=true→Qwo dl2<Qwo dl)∧(more=false→BfG N dl2 a 0)) (fun _ ua _=>m-(intOf ua).toNat)
   case atStart=>exact ⟨dl,false,0,Nat.zero_le _,rfl,rfl,HW.out,HF.out,Zn _,(fun h=>by cases h),fun _ p j b hp=>by omega⟩
   case round =>
    obtain ⟨dl2,more,a,ha,rfl,rfl,hW2,hF2,hle2,hlt2,hG2⟩:=hrel;have HW2:=Zh hW2;have HF2:=Zh hF2;have HG2:=Zh hG2;have HLT2:=Zh hlt2
    by_cases ham:a<m
    rotate_left
    · obtain rfl:a=m:=by omega
      have j2:¬((a:Int)<(a:Int)):=by omega
      have hm1:=Qpx HW.out.row;have hm2:=Qpx hW2.row;clear hW2 hF2 hG2 hlt2
      go_wp2_with fail
      go_roundw
      case rel=>exact ⟨dl2,more,rfl,HW2.out,HF2.out,HG2.out⟩
      case measure =>
       rw [hm1,hm2]
       cases more with
       | false=>simp;omega
       | true=>have:=HLT2.out rfl;simp;omega
    obtain ⟨nb2,no2,na2,nc2,tb2,to2,ta2,tc2,e2,e3,hrow⟩:=HRW.out a ham
    cases e2
    cases e3
    have HS3:=Zh hrow;obtain ⟨ln2,hlne⟩:∃ ln2,ln2=(Qhe N a).length:=⟨_,rfl⟩;rw [←hlne] at HS3;have hln5:ln2≤16384:=by rw [hlne];have:=nxt_len N a;have:=HLM.out;omega
    have HLE2:=Zh hlne;have j1:(a:Int)<(m:Int):=by omega
    have j0:(0:Int)≤(a:Int):=by omega
    clear hrow hlne hW2 hF2 hG2 hlt2
    go_wp2_with fail
    go_loopw [6,8] (fun um uk V=>∃ (kk:Nat) (dl3:List Int) (more3:Bool),kk≤ln2∧uk=.int .i64 kk∧um=.bool more3∧BfW w D #[.slice A n c,.slice (some ⟨yb,yo,none⟩) m d,.slice C k e,.slice (some ⟨nb0,no0,none⟩) m cx,.slice (some ⟨tb0,to0,none⟩) m ct] V dl3∧BfF N s dl3∧Qwo dl3≤Qwo dl∧(more3=true→Qwo dl3<Qwo dl)∧(more3=false→BfG N dl3 a kk)) (fun _ uk _=>ln2-(intOf uk).toNat)
    case atStart=>exact ⟨0,dl2,more,Nat.zero_le _,rfl,rfl,HW2.out,HF2.out,hle2,HLT2.out,HG2.out⟩
    case round =>
     obtain ⟨kk,dl3,more3,hkk,rfl,rfl,hW3,hF3,hle3,hlt3,hG3⟩:=hrel;have HW3:=Zh hW3;have HF3:=Zh hF3;have HLE3:=Zh hle3;have HLT3:=Zh hlt3;have HG3:=Zh hG3;obtain ⟨r1,r2,r3,r4⟩:=HS3.out wr hW3.bel;have x3:wr.cell? ⟨w.heap.size,3,none⟩=some (.slice (some ⟨nb0,no0,none⟩) m cx):=Zq hW3.box;have x4:wr.cell? ⟨w.heap.size,4,none⟩=some (.slice (some ⟨tb0,to0,none⟩) m ct):=Zq hW3.box;have x1:wr.cell? ⟨w.heap.size,1,none⟩=some (.slice (some ⟨yb,yo,none⟩) m d):=Zq hW3.box;have hXl:=hW3.box.lt;obtain ⟨da,hda⟩:∃ da,dl3[a]?=some da:=⟨_,Zg (by rw [HF3.out.len,HLM.out];exact ham)⟩;have d0:=hW3.row.cellI hda;have HDA:=Zh hda;clear hW3 hF3 hle3 hlt3 hG3 hda HW2 HF2 HG2 HLT2 hle2
     by_cases hlt:kk<ln2
     rotate_left
     · obtain rfl:kk=ln2:=by omega
       have j2:¬((kk:Int)<(kk:Int)):=by omega
       have HEX:=Zh (fun h=>(HG3.out h).up (.inl (by rw [←HLE2.out];exact Zn _)));clear r3 r4
       exact Kck
     have j2:(kk:Int)<(ln2:Int):=by omega
     by_cases hdl:da<1152921504606846976
     rotate_left
     · have HEX:=Zh (fun h=>(HG3.out h).up (.inr (by rw [Qfn HDA.out];exact hdl)))
       clear r3 r4
       exact Kck
     obtain ⟨b,hb1,hb2,hb3,hb4⟩:=nxt_at (N:=N) (a:=a) (k:=kk) (by rw [←HLE2.out];exact hlt);obtain ⟨ab,ao,z1,rfl,hz1,c1⟩:=r3.at_ hlt;rw [hb1] at hz1
     cases hz1
     obtain ⟨bb,bo,z2,rfl,hz2,c2⟩:=r4.at_ hlt;rw [hb2] at hz2
     cases hz2
     obtain ⟨y,hy⟩:∃ y,N.ar[b]?=some y:=⟨_,Zg hb4⟩;have hzw:=Qdw (hok.arcs _ (Zm hy)).w;obtain ⟨_,_,ey,y0,y1,y2⟩:=(HH.out.below HW3.out.bel).2.1.2 b _ hy
     cases ey
     obtain ⟨z,hze⟩:∃ z,z=y.2.2:=⟨_,rfl⟩;rw [←hze] at y2 hzw;have j3:(0:Int)≤(kk:Int):=by omega
     have j4:(b:Int)<(m:Int):=by have:=HLM.out;omega
     have j5:(0:Int)≤(b:Int):=by omega
     have hz0:0≤z:=by omega
     have hz9:z≤1152921504606846976:=by omega
     have hda0:0≤da:=by
      rcases HF3.out.at_ a with h|⟨h,_,_⟩ <;> rw [Qfn HDA.out] at h <;> omega
     have hub:=(HTB.out a b).resolve_left hb3;have hub9:Qaw N a b≤1152921504606846976:=by omega
     have hcb:=Qjc hda0 hub.1;have HAD:=Zh (fun V=>Qgm da (Qaw N a b) V ⟨hda0,by omega⟩ ⟨hub.1,hub9⟩);obtain ⟨cc,hcc⟩:∃ cc,cc=Qdz da (Qaw N a b):=⟨_,rfl⟩;rw [←hcc] at hcb;have HAZ:=Zh (fun V=>Qgm cc z V ⟨hcb.1,hcb.2.1⟩ ⟨hz0,hz9⟩);obtain ⟨cz,hcz⟩:∃ cz,cz=Qdz cc z:=⟨_,rfl⟩;have HCC:=Zh hcc;have HCZ:=Zh hcz;have HCD:=Zh (show Qdz (Qdz (dAt dl3 a) (Qaw N a b)) y.2.2=cz by rw [Qfn HDA.out,←hcc,←hze];exact hcz.symm)
     have HDI:=Zh (show dAt dl3 a<1152921504606846976 by rw [Qfn HDA.out];exact hdl)
     have HD0:=Zh (show 0≤dAt dl3 a by rw [Qfn HDA.out];exact hda0)
     obtain ⟨db,hdb⟩:∃ db,dl3[b]?=some db:=⟨_,Zg (by rw [HF3.out.len];exact hb4)⟩;have HDB:=Zh hdb;have HZ0:=Zh (show 0≤y.2.2 by rw [←hze];exact hz0)
     have HB1:=Zh hb1;have HB3:=Zh hb3;have HY:=Zh hy;clear hb1 hb2 hb3 hb4 hy r3 r4 hzw hub hub9 hcc hdb hcb hcz hze y0 y1
     go_wp2_with fail
     refine wp_region_held_drew (S:=fun V=>V=wr.drew) (by kernel_rfl) rfl (fun _=>?_);refine tz 0 67 ?_;refine tz 1 68 ?_;refine tz 2 69 ?_;refine tz 3 70 ?_;refine tz 4 71 ?_;refine tz 5 72 ?_;refine tz 6 73 ?_;refine tz 7 74 ?_;refine tz 8 75 ?_;refine tz 9 76 ?_;refine tz 10 77 ?_;refine tz 11 78 ?_;refine tz 13 80 ?_;refine tz 14 81 ?_;refine tz 15 82 ?_;refine tz 16 83 ?_;refine tz 17 84 ?_;refine tz 18 85 ?_;refine tz 19 86 ?_;refine Zk 12 (fun K hK=>?_);go_simp;with_reducible refine (HAD.out _).mono ?_
     rintro r w' ⟨rfl,rfl⟩;rw [←HCC.out];go_simp;refine hK.out _ _ rfl (fun _=>?_);clear hK K;refine Zk 20 (fun K hK=>?_);go_simp;with_reducible refine (HAZ.out _).mono ?_
     rintro r w' ⟨rfl,rfl⟩;rw [←HCZ.out];go_simp;refine hK.out _ _ rfl (fun _=>?_);clear hK K;refine tz 21 10 ?_;refine Zd ?_;obtain ⟨w5,hw5⟩:∃ w5,w5=wr.drew:=⟨_,rfl⟩;rw [←hw5];have hb5:Below wr.heap.size wr w5:=by rw [hw5];exact (Zr _ _).drew
     have HW5:=Zh (HW3.out.below hb5);clear hw5 hb5 HAD HAZ r1 r2 c1 c2 x1 x3 x4 d0 hXl y2;have d0:=HW5.out.row.cellI HDB.out;have df:=HW5.out.row.frozen b
     by_cases hls:cz<db
     rotate_left
     · have HNO:=Zh (show dAt dl3 b≤cz by rw [Qfn HDB.out];omega)
       have HGN:=Zh (fun h=>BfG.next hok (HG3.out h) HB1.out HY.out HD0.out HB3.out HZ0.out (by rw [HCD.out];exact HNO.out))
       go_wp2_with fail
       go_roundw
       case rel=>exact ⟨kk+1,dl3,more3,by omega,by go_num,rfl,HW5.out,HF3.out,HLE3.out,HLT3.out,HGN.out⟩
       case measure=>simp [intOf];omega
     · have hnd:=HF3.out.nd hok (b:=b) (y:=y) HDI.out HB3.out HY.out HZ0.out
       rw [HCD.out,Qfn HDB.out] at hnd;have HND:=Zh (hnd hls);have HSU:=Zh (Qtq dl3 b cz db HDB.out HND.out.2 hls);have HW6:=Zh (HW5.out.set b cz);clear hnd
       go_wp2_with fail
       go_roundw
       case rel=>exact ⟨kk+1,_,true,by omega,by go_num,rfl,HW6.out,HND.out.1,by have:=HSU.out;have:=HLE3.out;omega,fun _=>by have:=HSU.out;have:=HLE3.out;omega,fun h=>by cases h⟩
       case measure=>simp [intOf];omega
def Qob (N:Qak)(s t:Nat)(v:Int):Prop:=(wV N s=1152921504606846976∧v=1152921504606846976)∨(wV N s≠1152921504606846976∧Lst (Rch (StW N) s t) v)
theorem Qwg (A B C NX TX:Option Addr)(n m k c d e cx ct s t:Nat)(N:Qak)(w:World)(h:Qbg w A B C n m k N)(hok:Qas N) (hnx:RdT w NX m (Qmg N)) (htx:RdT w TX m (Qmi N)) (hs:s<m) (ht:t<m) :
 Calls prog 16 #[.agg #[.slice A n c,.slice B m d,.slice C k e,.slice NX m cx,.slice TX m ct],.int .i64 s,.int .i64 t] w fun r w'=>(∃ v,r=.returned (.int .i64 v)∧Qob N s t v)∧Below w.heap.size w w':=by
 have HFR:=Zh (fun V (hV:Below w.heap.size w V)=>Quu A B C NX TX n m k c d e cx ct s N V (h.below hV) hok (hnx.below hV) (htx.below hV) hs);have HOK:=Zh hok;have HLM:=Zh h.2.1.1;have hm:m≤16384:=by rw [←h.2.1.1];exact hok.la
 have i1:(0:Int)≤(t:Int):=by omega
 have i2:(t:Int)<(m:Int):=by omega
 clear h hok hnx htx
 go_enter func16,ntmps16
 go_wp2_with fail
 (refine Qab ?_;intro w1 hw1)
 have hb1:Below w.heap.size w w1:=by rw [hw1];exact Qag
 have hX1:Blk w1 w.heap.size 50 #[.slice A n c,.slice B m d,.slice C k e,.slice NX m cx,.slice TX m ct]:=by rw [hw1];refine Blk.new' _ _ _ ?_;rfl
 clear hw1;with_reducible refine (Qbx A B C n m k c d e (t:Int) w1 i1 i2).mono ?_
 rintro r w2 ⟨rfl,hb2⟩;have hX2:=hX1.below hb2 hX1.lt;have hb2':=Zb hb1 hb2;clear hb1 hb2 hX1;have x0:w2.cell? ⟨w.heap.size,0,none⟩=some (.slice A n c):=Zq hX2;have x1:w2.cell? ⟨w.heap.size,1,none⟩=some (.slice B m d):=Zq hX2;have x2:w2.cell? ⟨w.heap.size,2,none⟩=some (.slice C k e):=Zq hX2;have x3:w2.cell? ⟨w.heap.size,3,none⟩=some (.slice NX m cx):=Zq hX2;have x4:w2.cell? ⟨w.heap.size,4,none⟩=some (.slice TX m ct):=Zq hX2;clear hX2
 go_wp2_with fail
 with_reducible refine (HFR.out w2 hb2').mono ?_
 rintro r w3 ⟨⟨D,dl,rfl,hD,hl,hP⟩,hb3⟩;obtain ⟨v,hv⟩:∃ v,dl[t]?=some v:=⟨_,Zg (by omega)⟩;have d0:=hD.cellI hv;have HB3:=Zh (Zb hb2' hb3)
 have HDP:=Zh (show Qob N s t v from by
  rcases hP with ⟨h1,rfl⟩|⟨h1,h2,h3⟩
  · refine .inl ⟨h1,?_⟩
    rw [List.getElem?_replicate] at hv
    split at hv
    · exact (Yv hv).symm
    · cases hv
  · have:=h2.fin HOK.out h3 t
    rw [Qfn hv] at this;exact .inr ⟨h1,this⟩)
 clear hD hP hv hb3 HFR hl
 go_wp2_with fail
 go_ret
 exact ⟨⟨v,rfl,HDP.out⟩,HB3.out⟩
def Qle (m NC S:Nat)(s t:Int):Option (Int×Int):=if s<0∨(m:Int)≤s then some (0,5) else if t<0∨(m:Int)≤t then some (1,5) else if NC≠S then some (2,1) else none
def Qll (w:World) (b:Option (Int×Int)) (e:Ending) (w':World):Prop:=(match b with|none=>e=.returned .nilIface|some (k,c)=>∃ v,e=.returned v∧Qcd w' v [((⟨#[97,115,107]⟩:ByteArray),k)] c)∧Below w.heap.size w w'
set_option maxHeartbeats 1000000 in
theorem Qhi (w:World)(g o:Nat)(N:Qak) (ls:List (List Int)) (CA:Option Addr) (NC cC S:Nat) (s t:Int) (hg:Qen w g N) (ho:Qfw w o N.ar ls) (hS:S=Qca (gatesOf N.ar ls)) (hS2:S≤1000000000) :
 Calls prog 45 #[.pointer (some ⟨g,0,none⟩),.pointer (some ⟨o,0,none⟩),.slice CA NC cC,.int .i64 s,.int .i64 t] w (Qll w (Qle N.ar.length NC S s t)):=by
 obtain ⟨m,hmm⟩:∃ m,m=N.ar.length:=⟨_,rfl⟩;have HGA:=Zh (show Calls prog 99 #[.pointer (some ⟨g,0,none⟩)] w fun e w'=>e=.returned (.int .i64 m)∧w=w' from by rw [hmm];exact Qhq g N w hg)
 have HSZ:=Zh (show Calls prog 48 #[.pointer (some ⟨o,0,none⟩)] w fun e w'=>e=.returned (.int .i64 (S:Nat))∧w=w' from by rw [hS];exact Qpd o N.ar ls w ho)
 rw [←hmm];clear hg ho hS hmm;unfold Qle
 by_cases i1:s<0
 · rw [if_pos (.inl i1)]
   exact Kaw
 have i1':¬s<0:=i1
 by_cases i2:(m:Int)≤s
 · rw [if_pos (.inr i2)]
   exact Kaw
 rw [if_neg (by omega)]
 by_cases i3:t<0
 · rw [if_pos (.inl i3)]
   exact Kaw
 by_cases i4:(m:Int)≤t
 · rw [if_pos (.inr i4)]
   exact Kaw
 rw [if_neg (by omega)]
 by_cases i5:NC=S
 · rw [if_neg (fun h=>h i5)]
   unfold Qll;subst i5
   go_enter func45,ntmps45
   go_wp2_with fail
   with_reducible refine HGA.out.mono ?_
   rintro r w' ⟨rfl,rfl⟩
   go_wp2_with fail
   with_reducible refine HSZ.out.mono ?_
   rintro r w' ⟨rfl,rfl⟩
   go_wp2_with fail
   go_ret
   exact ⟨rfl,Zr _ _⟩
 · rw [if_pos i5]
   unfold Qll;have i6:¬(NC:Int)=(S:Int):=by omega
   go_enter func45,ntmps45
   go_wp2_with fail
   with_reducible refine HGA.out.mono ?_
   rintro r w' ⟨rfl,rfl⟩
   go_wp2_with fail
   with_reducible refine HSZ.out.mono ?_
   rintro r w' ⟨rfl,rfl⟩
   go_wp2_with fail
   go_ret
   refine ⟨⟨_,rfl,w.heap.size,0,Qnc 1,rfl,?_,?_,?_,rfl⟩,Qag⟩
   all_goals simp
theorem Qob.uniq {N:Qak}{s t:Nat}{a b:Int}(h:Qob N s t a)(g:Qob N s t b):a=b:=by
 rcases h with ⟨h1,h2⟩|⟨h1,h2⟩ <;> rcases g with ⟨g1,g2⟩|⟨g1,g2⟩
 · rw [h2,g2]
 · exact absurd h1 g1
 · exact absurd g1 h1
 · exact h2.uniq g2
theorem RunP.dist {N:Qak} {ls:List (List Int)} {cl:List Int} {s t:Nat} {v:Int} {hs:List (Nat×Nat)} {xs:Tri} (h:RunP N ls [toV N s,frV N t] s t v hs) (hok:Qas N) (hP:Qbc N.vs.length ls) (hA:Qdh N ls cl) (hs:N.ar[s]?=some xs):Qob N s t v:=by
 rcases h with ⟨h1,h2,_⟩|⟨h1,h2,_⟩
 · exact .inl ⟨h1,h2⟩
 · exact .inr ⟨h1,Qms hok hP (hA.ex hok hP) ⟨_,hs⟩ (by simp) (by simp) h2⟩
section
variable (w:World) (g o:Nat) (N:Qak) (ls:List (List Int)) (CA:Option Addr) (NC cC S:Nat) (cl:List Int)
theorem Qwc (s t k c:Int)(hg:Qen w g N)(ho:Qfw w o N.ar ls) (hS:S=Qca (gatesOf N.ar ls)) (hS2:S≤1000000000) (hb:Qle N.ar.length NC S s t=some (k,c)) :
 Calls prog 13 #[.pointer (some ⟨g,0,none⟩),.pointer (some ⟨o,0,none⟩),.slice CA NC cC,.int .i64 s,.int .i64 t] w fun e w'=>(∃ v,e=.returned (.tuple #[.int .i64 0,v])∧Qcd w' v [((⟨#[97,115,107]⟩:ByteArray),k)] c)∧Below w.heap.size w w':=by
 have HCK:=Zh (Qhi w g o N ls CA NC cC S s t hg ho hS hS2);rw [hb] at HCK;clear hg ho hS hS2 hb
 go_enter func13,ntmps13
 go_wp2_with fail
 with_reducible refine HCK.out.mono ?_
 rintro r w1 ⟨⟨v,rfl,hc⟩,hb1⟩;obtain ⟨tv,xv,rfl⟩:=Qbj hc;have HC:=Zh hc;clear hc
 go_wp2_with fail
 refine bodyPost_ret (v:=.tuple #[.int .i64 0,.iface tv xv]) (by simp [results,results13,go_sem]) rfl ?_;exact ⟨⟨_,rfl,HC.out⟩,hb1⟩
theorem Qjd (s t:Nat)(xs xt:Tri)(hg:Qen w g N)(ho:Qfw w o N.ar ls)(hc:RdI w CA NC cl)(hok:Qas N)(hP:Qbc N.vs.length ls)(hA:Qdh N ls cl)(hcc:NC≤cC∧cC≤9223372036854775807) (hSm:Qca (gatesOf N.ar ls)≤1000000000) (hxs:N.ar[s]?=some xs) (hxt:N.ar[t]?=some xt) :
 Calls prog 13 #[.pointer (some ⟨g,0,none⟩),.pointer (some ⟨o,0,none⟩),.slice CA NC cC,.int .i64 s,.int .i64 t] w fun e w'=>(∃ v,e=.returned (.tuple #[.int .i64 v,.nilIface])∧Qob N s t v)∧Below w.heap.size w w':=by
 have hsn:=(Zs hxs).1;have htn:=(Zs hxt).1;have hNS:NC=Qca (gatesOf N.ar ls):=by rw [←hc.1,hA.1]
 have HCK:=Zh (Qhi w g o N ls CA NC cC _ s t hg ho rfl hSm);rw [show Qle N.ar.length NC (Qca (gatesOf N.ar ls)) s t=none by unfold Qle;rw [if_neg (by omega),if_neg (by omega),if_neg (by omega)]] at HCK
 have HNQ:=Zh (fun V (hV:Below w.heap.size w V)=>Qlm V g o N ls s t CA NC cC cl (hg.below hV) (ho.below hV) (hc.below hV) hok hP);have HRN:=Zh (fun (V:World) (qb:Nat) (Q:Option Addr) (L cq mb bb B:Nat) h hm hB hBB=>run_ok V qb g o N ls s t CA NC cC cl Q L cq mb bb N.ar.length B xs xt h hm hB hok hP hA hcc hSm hxs hxt rfl hBB);have HDP:=Zh (fun v hs (h:RunP N ls [toV N s,frV N t] s t v hs)=>h.dist hok hP hA hxs);clear hg ho hc hok hP hA hcc hSm hxs hxt hsn htn hNS
 go_enter func13,ntmps13
 go_wp2_with fail
 with_reducible refine HCK.out.mono ?_
 rintro r w1 ⟨rfl,hb1⟩;have HB1:=Zh hb1;have HQN:=Zh (HNQ.out w1 hb1);clear hb1
 go_wp2_with fail
 with_reducible refine HQN.out.mono ?_
 rintro r w2 ⟨qb,Q,cq,mb,bb,rfl,hq,hm,hB,⟨m1,m2,m3⟩,hb2⟩;have HR2:=Zh (HRN.out w2 qb Q ls.length cq mb bb w.heap.size hq hm hB ⟨Yx HB1.out.size m1,Yx HB1.out.size m2,m3⟩);have HB2:=Zh (Zb HB1.out hb2);clear hq hm hB m1 m2 m3 hb2
 go_wp2_with fail
 with_reducible refine HR2.out.mono ?_
 rintro r w3 ⟨⟨v,A,n,c,hs,rfl,hr,_,_,_⟩,hb3⟩;have HV:=Zh (HDP.out v hs hr);have HB3:=Zh (HB2.out.trans hb3);clear hr hb3
 go_wp2_with fail
 refine bodyPost_ret (v:=.tuple #[.int .i64 v,.nilIface]) (by simp [results,results13,go_sem]) rfl ?_;exact ⟨⟨v,rfl,HV.out⟩,HB3.out⟩
def SrcP (w':World)(N:Qak) (ls:List (List Int)) (s t:Nat) (e:Ending):Prop:=∃ v A n c hs,e=.returned (.tuple #[.agg #[.int .i64 v,.slice A n c],.nilIface])∧Qob N s t v∧RunP N ls [toV N s,frV N t] s t v hs∧RdH w' A n (hs.map (Qte N ls [toV N s,frV N t]))∧n≤16384
theorem RdH.far {w:World}{A:Option Addr}{n g i:Nat}{L:List Qmz}(h:RdH w A n L)(hg:∀ b,Qac A=some b→b≠g)(v:Value):RdH (w.setCell ⟨g,i,none⟩ v) A n L :=
 ⟨h.1,fun k x hx=>by
  obtain ⟨b,o,e,h1,h2,h3⟩:=h.2 k x hx;have hb:=hg b (by rw [e];rfl);refine ⟨b,o,e,?_,?_,?_⟩ <;> rw [World.cell?_setCell_other _ _ _ _ (by intro h;simp only [Addr.mk.injEq] at h;omega)] <;> assumption⟩
theorem Qoq (s t:Nat)(xs xt:Tri)(hg:Qen w g N)(ho:Qfw w o N.ar ls)(hc:RdI w CA NC cl)(hok:Qas N)(hP:Qbc N.vs.length ls)(hA:Qdh N ls cl)(hcc:NC≤cC∧cC≤9223372036854775807) (hSm:Qca (gatesOf N.ar ls)≤1000000000) (hxs:N.ar[s]?=some xs) (hxt:N.ar[t]?=some xt) :
 Calls prog 32 #[.pointer (some ⟨g,0,none⟩),.pointer (some ⟨o,0,none⟩),.slice CA NC cC,.int .i64 s,.int .i64 t] w fun e w'=>SrcP w' N ls s t e∧Below w.heap.size w w':=by
 have hsn:=(Zs hxs).1;have htn:=(Zs hxt).1;have hNS:NC=Qca (gatesOf N.ar ls):=by rw [←hc.1,hA.1]
 have HCK:=Zh (fun V (hV:Below w.heap.size w V)=>Qhi V g o N ls CA NC cC _ s t (hg.below hV) (ho.below hV) rfl hSm);rw [show Qle N.ar.length NC (Qca (gatesOf N.ar ls)) s t=none by unfold Qle;rw [if_neg (by omega),if_neg (by omega),if_neg (by omega)]] at HCK
 have HNQ:=Zh (fun V (hV:Below w.heap.size w V)=>Qlm V g o N ls s t CA NC cC cl (hg.below hV) (ho.below hV) (hc.below hV) hok hP);have HRN:=Zh (fun (V:World) (qb:Nat) (Q:Option Addr) (L cq mb bb B:Nat) h hm hB hBB=>run_ok V qb g o N ls s t CA NC cC cl Q L cq mb bb N.ar.length B xs xt h hm hB hok hP hA hcc hSm hxs hxt rfl hBB);have HDP:=Zh (fun v hs (h:RunP N ls [toV N s,frV N t] s t v hs)=>h.dist hok hP hA hxs);clear hg ho hc hok hP hA hcc hSm hxs hxt hsn htn hNS
 go_enter func32,ntmps32
 go_wp2_with fail
 (refine Qab ?_;intro w0 hw0)
 have hb0:Below w.heap.size w w0:=by rw [hw0];exact Qag
 have hF0:Blk w0 w.heap.size 91 #[.int .i64 0,.slice none 0 0]:=by rw [hw0];exact Blk.new _ _ _
 clear hw0;with_reducible refine (HCK.out w0 hb0).mono ?_
 rintro r w1 ⟨rfl,hb1⟩;have HF1:=Zh (hF0.below hb1 hF0.lt);have HB1:=Zh (Zb hb0 hb1);have HQN:=Zh (HNQ.out w1 HB1.out);clear hb1 hb0 hF0
 go_wp2_with fail
 with_reducible refine HQN.out.mono ?_
 rintro r w2 ⟨qb,Q,cq,mb,bb,rfl,hq,hm,hB,⟨m1,m2,m3⟩,hb2⟩;have HF2:=Zh (HF1.out.below hb2 HF1.out.lt);have HZ:=Zh (show w1.heap.size≤mb∧w1.heap.size≤bb from ⟨m1,m2⟩)
 have HR2:=Zh (HRN.out w2 qb Q ls.length cq mb bb w1.heap.size hq hm hB ⟨m1,m2,m3⟩);have HB2:=Zh (Zb HB1.out hb2);have HS2:=Zh hb2.size;clear hq hm hB m1 m2 m3 hb2
 go_wp2_with fail
 with_reducible refine HR2.out.mono ?_
 rintro r w3 ⟨⟨v,A,n,c,hs,rfl,hr,hh,hn,hlo⟩,hb3⟩;have HV:=Zh (HDP.out v hs hr);have HR:=Zh hr;have hF3:Blk w3 w.heap.size 91 #[.int .i64 0,.slice none 0 0]:=HF2.out.below hb3 HF1.out.lt;have HB3:=Zh (HB2.out.trans (hb3.mono HB1.out.size));have HLO:=Zh (show ∀ b,Qac A=some b→b≠w.heap.size from fun b hb e=>by have:=hlo b hb;have:=HS2.out;have:=HF1.out.lt;omega)
 obtain ⟨c0,c1,f0,f1⟩:=hF3.two;have HH:=Zh ((hh.far (i:=0) HLO.out (.int .i64 v)).far (i:=1) HLO.out (.slice A n c));have HBB:=Zh ((HB3.out.setCell (p:=⟨w.heap.size,0,none⟩) (Zn _) (.int .i64 v)).setCell (p:=⟨w.heap.size,1,none⟩) (Zn _) (.slice A n c));clear hr hb3 hh hlo hF3
 go_wp2_with fail
 refine bodyPost_ret (v:=.tuple #[.agg #[.int .i64 v,.slice A n c],.nilIface]) (by simp [results,results32,go_sem,c0,c1]) rfl ?_;exact ⟨⟨v,A,n,c,hs,rfl,HV.out,HR.out,HH.out,hn⟩,HBB.out⟩
end
set_option maxRecDepth 20000 in
theorem Qkv (w:World)(o:Nat)(ar:List Tri) (ls:List (List Int)) (n:Nat) (v a b:Int) (ho:Qfw w o ar ls) (hP:Qbc n ls) (hn:n≤8192) :
 Calls prog 35 #[.pointer (some ⟨o,0,none⟩),.int .i64 v,.int .i64 a,.int .i64 b] w fun e w'=>e=.returned (.int .i64 (lvI n ls v a b))∧Below w.heap.size w w':=by
 have HPT:=Zh (Qla o ar ls w ho (by have:=hP.l6;omega) (fun l hl=>by have:=(hP.lvl l hl).len;omega));have HLV:=Zh (fun V Q L cq (h:RdT V Q L ls)=>Qni Q L cq n ls v a b V h hP);clear ho hP
 go_enter func35,ntmps35
 go_wp2_with fail
 with_reducible refine HPT.out.mono ?_
 rintro r w1 ⟨Q,cq,rfl,hQ,hb1⟩;have hfl:∀ V,(Instr.field 132 (.agg #[.slice Q ls.length cq]) 0).run prog V=.ok (.slice Q ls.length cq) V:=fun V=>by rfl
 have HL:=Zh (HLV.out w1 Q ls.length cq (hQ.le (Qbd _ _)));clear hQ HPT
 go_wp2_with fail
 with_reducible refine HL.out.mono ?_
 rintro r w2 ⟨rfl,hb2⟩;have HB2:=Zh (Zb hb1 hb2);clear hb1 hb2
 go_wp2_with fail
 go_ret
 exact ⟨rfl,HB2.out⟩
end Go.Proofs.YtdheeddnkdhfeaaGreatDoor
