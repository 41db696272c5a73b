/- Parts of the proof: AsH, AsX, Yj, Ym. -/
import Derived.Test.YtdheeddnkdhfeaaGreatDoorA19
import Derived.Test.YtdheeddnkdhfeaaGreatDoorShelf3
namespace Go.Proofs.YtdheeddnkdhfeaaGreatDoor
open Go.RowKit Go.Sort Go.Shelf Go.Proofs.Tryz
attribute [local go_sem ↓] Go.wp_at_zero Go.wp_at_succ
abbrev Qsk:=Nat×Nat×Nat
def hpc (x:Qsk):List Value:=[.int .i64 (x.1:Int),.int .i64 (x.2.1:Int),.int .i64 (x.2.2:Int)]
def Qvd (l:List Qsk):List Value:=l.flatMap hpc
theorem Qxj (x:Qsk):∀ u∈hpc x,u.oneCell'=true:=by
 intro u hu;simp only [hpc,List.mem_cons,List.not_mem_nil,or_false] at hu
 rcases hu with rfl|rfl|rfl <;> rfl
theorem Qjc (l m:List Qsk):Qvd (l ++m)=Qvd l ++Qvd m:=by simp [Qvd]
theorem Qjg (x:Qsk):Qvd [x]=hpc x:=by simp [Qvd]
theorem hpcs_len (l:List Qsk):(Qvd l).length=l.length*3:=by
 induction l with
 | nil=>rfl
 | cons x l ih=>rw [show x::l=[x] ++l from rfl,Qjc,Yp,ih,Qjg,Yp];simp [hpc];omega
theorem Qxh:∀ (l:List Qsk)(k:Nat)(e:Qsk),l[k]?=some e→∀ q,q<3→(Qvd l)[k*3+q]?=(hpc e)[q]?
 | [],k,e,h=>by simp at h
 | x::l,0,e,h=>by
  intro q hq;simp at h;subst h;rw [show x::l=[x] ++l from rfl,Qjc,Qjg,Yc (by simp [hpc];omega),Nat.zero_mul,Yz]
 | x::l,k+1,e,h=>by
  intro q hq;have:=Qxh l k e (by simpa using h) q hq;rw [show x::l=[x] ++l from rfl,Qjc,Qjg,Yb (by simp [hpc];omega)]
  rw [←this]
  congr 1
  simp [hpc];omega
def RdH (w:World)(A:Option Addr)(n:Nat)(L:List Qsk):Prop :=
 L.length=n∧∀ i x,L[i]?=some x→∃ b o,A=some ⟨b,o,none⟩∧w.cell? ⟨b,o+i*3,none⟩=some (.int .i64 (x.1:Int))∧w.cell? ⟨b,o+i*3+1,none⟩=some (.int .i64 (x.2.1:Int))∧w.cell? ⟨b,o+i*3+2,none⟩=some (.int .i64 (x.2.2:Int))
theorem RdH.le {w w':World}{A:Option Addr}{n:Nat}{L:List Qsk}(h:RdH w A n L)(hl:Le w w'):RdH w' A n L :=
 ⟨h.1,fun i x hx=>by
  obtain ⟨b,o,e,h1,h2,h3⟩:=h.2 i x hx;exact ⟨b,o,e,hl _ _ h1,hl _ _ h2,hl _ _ h3⟩⟩
theorem isAggHop (w:World):(isAgg 100).run prog w=.ok true w:=by kernel_rfl
theorem Qvx (w:World):(Go.sizeOf 100).run prog w=.ok 3 w:=by kernel_rfl
theorem infoHop:(Tryz.prog.info? 100).map (fun i=>(i.zero,i.size,i.bytes))=some (some (.agg #[.int .i64 0,.int .i64 0,.int .i64 0]),3,24):=by kernel_rfl
theorem rev_ok (A:Option Addr)(n c B:Nat)(L:List Qsk)(w:World) (hO:Own w B 100 3 A n c (Qvd L)) (hB:B≤w.heap.size) (hbig:n<4611686018427387904) :
 Calls prog 152 #[.slice A n c] w fun e w'=>e=.returned (.tuple #[])∧RdH w' A n L.reverse∧Below B w w':=by
 have hlen:L.length=n:=by
  have:=hO.1;rw [hpcs_len] at this;omega
 rcases Nat.eq_zero_or_pos n with h0|h0
 · subst h0
   obtain rfl:L=[]:=List.eq_nil_of_length_eq_zero hlen;have hcon:=@AnyQ.slices_Reverse_empty _ _ revHop A c w;refine Calls.mono (show Calls prog 152 _ _ _ from hcon) ?_
   rintro e w' ⟨rfl,rfl⟩;exact ⟨rfl,⟨rfl,fun i x hx=>by simp at hx⟩,Zr _ _⟩
 · obtain ⟨g,cur,rfl,hg,hblk,hcur⟩:=hO.block h0
   have hds:L.toArray.size=n:=by simpa using hlen
   have hget:∀ i (hi:i<n),L.toArray[i]! = L[i]:=fun i hi=>by
    rw [getElem!_pos L.toArray i (by omega)];simp
   have hrd:=hO.rds
   have hH:HoldsK hpc 3 w g 0 L.toArray:=fun j hj=>by
    have hj':j<n*3:=by rw [size_flatK,hds] at hj;exact hj
    rw [Yz];refine ⟨?_,hblk.frozen j⟩;rw [get_flatK _ _ _ _ (by rw [hds];exact hj'),hget (j / 3) (by omega)];have h1:=Qxh L (j / 3) L[j / 3] (Zg (by omega)) (j % 3) (by omega);rw [show j / 3*3+j % 3=j by omega] at h1
    obtain ⟨v,hv⟩:∃ v,(hpc L[j / 3])[j % 3]?=some v:=⟨_,Zg (show j % 3<(hpc L[j / 3]).length from Nat.mod_lt j (by omega))⟩
    rw [hv] at h1;obtain ⟨b,o,e,hc⟩:=hrd.2 j v h1
    cases e
    rw [Yz] at hc;rw [hc]
    have:(hpc L[j / 3])[j % 3]! = v:=by
     rw [getElem!_def,hv]
    rw [this]
    rfl
   have hcon:=AnyQ.slices_Reverse revHop 3 isAggHop Qvx hpc (fun _=>rfl) (fun x v hv=>Qxj x v hv) g 0 c L.toArray w hH (by omega);rw [hds] at hcon;refine Calls.mono (show Calls prog 152 _ _ _ from hcon) ?_
   rintro e w' ⟨rfl,q,rfl⟩;have hH':=holdsK_putRowK hpc 3 (Sort.ahead w q) g 0 L.toArray L.toArray.reverse hH (by simp);refine ⟨rfl,⟨by simpa using hlen,fun i x hx=>?_⟩,?_⟩
   · have hi:i<L.toArray.reverse.size:=by have:=(Zs hx).1;simpa using this
     have hx2:L.toArray.reverse[i]! = x:=by
      rw [getElem!_pos L.toArray.reverse i hi];have:=(Zs hx).2
      simpa using this
     have h1:=(HoldsK.cell hH' hi (show 0<3 by omega)).1
     have h2:=(HoldsK.cell hH' hi (show 1<3 by omega)).1
     have h3:=(HoldsK.cell hH' hi (show 2<3 by omega)).1
     rw [hx2] at h1 h2 h3;exact ⟨g,0,rfl,h1,h2,h3⟩
   · have hgr:w.grownBy (putRowK hpc 3 (Sort.ahead w q) g 0 L.toArray.reverse) (some g):=by
      refine ⟨rfl,rfl,rfl,by simp [putRowK,putRow,mapBlock,Sort.ahead],fun k hk hne=>?_⟩;have hne':k≠g:=fun e=>hne (by rw [e])
      simp only [putRowK,putRow,mapBlock,Array.getElem?_modify];rw [if_neg (by omega)]
      rfl
     exact (Zr B w).grown hgr hB fun k hk=>by cases hk;exact hg
theorem HSt.ar {N:Qam} {ls:List (List Int)} {av:List Int} {p q:Nat} {d:Int} (h:HSt N ls av p q d):∃ x,N.ar[q]?=some x:=by
 rcases h with ⟨_,y,hy,_⟩|⟨j,l,y,z,v,_,_,_,hz,_⟩
 · exact ⟨y,hy⟩
 · exact ⟨z,hz⟩
theorem Via.ar {N:Qam} {ls:List (List Int)} {av:List Int} {s q:Nat} {bf:List Int} {dn:Nat→Option Int} {c:Int} {hs:List (Nat×Nat)} (h:Via N ls av s bf dn q c hs) (hs0:∃ x,N.ar[s]?=some x):∃ x,N.ar[q]?=some x:=by
 cases h with
 | start=>exact hs0
 | step _ _ _ _ h5=>exact h5.ar
noncomputable def Qse (N:Qam) (ls:List (List Int)) (av:List Int) (p:Nat×Nat):Qsk:=(Qgt ls (toV N p.1) av,p.1,p.2)
set_option maxRecDepth 20000 in
set_option maxHeartbeats 2000000 in
theorem hops_ok (w:World)(qb g o:Nat)(N:Qam) (ls:List (List Int)) (s t:Nat) (CA:Option Addr) (NC cC:Nat) (cl:List Int) (Q:Option Addr) (L cq mb bb na:Nat) (bf:List Int) (dn:Nat→Option Int) (c0:Int) (hs:List (Nat×Nat)) (xs xt:Tri) (h:QR w qb g o N ls s t CA NC cC cl Q L cq mb bb na) (hok:Qap N) (hP:Qaw N.vs.length ls) (hxs:N.ar[s]?=some xs) (hxt:N.ar[t]?=some xt)
 (hB:Blk w bb 3 (Qcj bf)) (hlb:bf.length=na) (hna:na=N.ar.length) (hv:Via N ls [toV N s,frV N t] s bf dn t c0 hs) (hl:hs.length≤16384) :
 Calls prog 103 #[.pointer (some ⟨qb,0,none⟩)] w fun e w'=>(∃ A n c,e=.returned (.slice A n c)∧RdH w' A n (hs.map (Qse N ls [toV N s,frV N t]))∧n≤16384∧∀ b,Qab A=some b→w.heap.size≤b)∧Below w.heap.size w w':=by
 obtain ⟨av,hav⟩:∃ av,av=[toV N s,frV N t]:=⟨_,rfl⟩;rw [←hav] at hv ⊢;have HQ:=Zh (fun V (hV:Below w.heap.size w V)=>h.below hV)
 have HLV:=Zh (show ∀ V,Below w.heap.size w V→∀ (p:Nat) (x:Tri),N.ar[p]?=some x→Calls prog 105 #[.pointer (some ⟨qb,0,none⟩),.int .i64 p] V fun e w'=>e=.returned (.int .i64 ((Qgt ls (toV N p) av:Nat):Int))∧Below V.heap.size V w' from fun V hV p x hx=>by
  rw [hav];exact Qof V qb g o N ls s t CA NC cC cl Q L cq mb bb na p x xs xt (h.below hV) hok hP hx hxs hxt)
 have HB:=Zh hB;have HV:=Zh hv;have HLB:=Zh hlb;have HNA:=Zh hna;have HL:=Zh hl;have HS0:=Zh (show ∃ x,N.ar[s]?=some x from ⟨_,hxs⟩)
 have q4:=h.q4;have HLA:=Zh hok.la;clear h hok hP hxs hxt hB hlb hna hv hl
 go_enter func103,ntmps103
 go_wp2_with fail
 go_loopw [3,4] (fun ul ub W=>∃ (q:Nat) (cq:Int) (h1:List (Nat×Nat)) (A:Option Addr) (n c:Nat) (M:List Qsk),ub=.int .i64 q∧ul=.slice A n c∧Via N ls av s bf dn q cq h1∧hs.map (Qse N ls av)=h1.map (Qse N ls av) ++M.reverse∧n=M.length∧Own W w.heap.size 100 3 A n c (Qvd M)∧Below w.heap.size w W) (fun _ ub _=>Qpi N ls av s bf dn (intOf ub).toNat)
 case atStart=>exact ⟨t,c0,hs,none,0,0,[],rfl,rfl,HV.out,by simp,rfl,Own.nil _ _ _ _,Zr _ _⟩
 case round =>
  obtain ⟨q,cq,h1,A,n,c,M,rfl,rfl,hv,he,hn,ho,hb⟩:=hrel;have HO:=Zh ho;have HBW:=Zh hb;have HE:=Zh he;have HN:=Zh hn
  have hnl:n≤16384:=by
   have:=congrArg List.length he;rw [List.length_map,Yp,List.length_map,List.length_reverse] at this;have:=HL.out;omega
  have q3:=(HQ.out wr hb).q3;have q4:=(HQ.out wr hb).q4;have q7:=(HQ.out wr hb).q7
  by_cases hqs:q=s
  · subst hqs
    have HM:=Zh (show hs.map (Qse N ls av)=M.reverse from by
     cases hv with
     | start=>simpa using he
     | step _ _ h3 _ _=>exact absurd rfl h3)
    have HRV:=Zh (rev_ok A n c w.heap.size M wr ho hb.size (by omega));clear hv he ho hb hn q4 q7
    go_wp2_with fail
    with_reducible refine HRV.out.mono ?_
    rintro e w2 ⟨rfl,hr,hb2⟩;have HR:=Zh hr;have HB2:=Zh (HBW.out.trans hb2);clear hr hb2
    go_wp2_with fail
    go_ret
    exact ⟨⟨A,n,c,rfl,by rw [HM.out];exact HR.out,hnl,fun b hb=>(HO.out.lt b hb).1⟩,HB2.out⟩
  · obtain ⟨p,h2,cp,d,hv2,hh1,hbq,hst⟩:∃ p h2 cp d,Via N ls av s bf dn p cp h2∧h1=h2 ++[(p,q)]∧bf[q]?=some ((p:Nat):Int)∧HSt N ls av p q d:=by
     cases hv with
     | start=>exact absurd rfl hqs
     | step h1 h2 h3 h4 h5=>exact ⟨_,_,_,_,h1,rfl,h4,h5⟩
    have HME:=Zh (show Qpi N ls av s bf dn p<Qpi N ls av s bf dn q by rw [Qos hv,Qos hv2,hh1,Yp,List.length_singleton];omega)
    have HV2:=Zh hv2;have HE2:=Zh (show hs.map (Qse N ls av)=h2.map (Qse N ls av) ++(M ++[Qse N ls av (p,q)]).reverse by rw [he,hh1];simp)
    obtain ⟨xp,hxp⟩:=hv2.ar HS0.out;have HLVp:=Zh (HLV.out wr hb p xp hxp);have hql:=(Zs hbq).1;have hqn:(q:Int)<(na:Int):=by have:=HLB.out;omega
    have hq0:(0:Int)≤(q:Int):=by omega
    have hne:¬(q:Int)=(s:Int):=by omega
    have k7:=(HB.out.below hb HB.out.lt).cellI hbq;obtain ⟨lv,hlv⟩:∃ lv,lv=Qgt ls (toV N p) av:=⟨_,rfl⟩;rw [←hlv] at HLVp;have HVV:=Zh (show Qse N ls av (p,q)=(lv,p,q) by rw [hlv];rfl)
    have HBQ:=Zh hbq;clear hv he ho hb hn hv2 hh1 hst hbq hxp hlv
    go_wp2_with fail
    with_reducible refine HLVp.out.mono ?_
    rintro e w2 ⟨rfl,hb2⟩;obtain ⟨W2,hW2⟩:∃ W2,W2=w2.alloc (.cells #[.int .i64 (lv:Nat),.int .i64 (p:Nat),.int .i64 (q:Nat)] 100):=⟨_,rfl⟩;have hbW:Below wr.heap.size wr W2:=by rw [hW2];exact hb2.alloc hb2.size _
    have hrdW:Rds W2 3 (some ⟨w2.heap.size,0,none⟩) 1 (Qvd [(lv,p,q)]):=by rw [hW2];exact (Blk.new w2 100 #[.int .i64 (lv:Nat),.int .i64 (p:Nat),.int .i64 (q:Nat)]).rds rfl
    have hownW:=HO.out.below hbW;have hszW:w.heap.size≤W2.heap.size:=Yx HBW.out.size hbW.size;have HBW2:=Zh (Zb HBW.out hbW);have hone:∀ u∈Qvd [(lv,p,q)],u.oneCell'=true:=by rw [Qjg];exact Qxj _
    have HW2:=Zh hW2;clear hW2 hb2 hbW k7 q3 q4 q7
    go_wp2_with (at_builtin;rw [←HW2.out];with_reducible refine Qal rfl (.tmp 30) (.tmp 37) 89 rfl 100 _ 3 24 infoHop underlying89 rfl (by omega) rfl rfl hownW hrdW hone (by omega) (by omega) hszW ?_)
    intro A' c' w3 ho3 hg3 hat3;have hb3:Below w.heap.size w w3:=Zo HBW2.out hg3 hownW hszW;have q7:=(HQ.out w3 hb3).q7;have k7:=(HB.out.below hb3 HB.out.lt).cellI HBQ.out;have HO3:=Zh ho3;have HB3:=Zh hb3;clear hownW hrdW hszW ho3 hg3 hat3 hb3
    go_wp2_with fail
    go_roundw
    case rel=>exact ⟨p,_,h2,A',n+1,c',M ++[Qse N ls av (p,q)],rfl,rfl,HV2.out,HE2.out,by rw [Yp,HN.out];rfl,by rw [HVV.out,Qjc];exact HO3.out,HB3.out⟩
    case measure=>exact HME.out
end Go.Proofs.YtdheeddnkdhfeaaGreatDoor
namespace Go.Proofs.YtdheeddnkdhfeaaGreatDoor
open Go.RowKit Go.Proofs.Tryz
attribute [local go_sem ↓] Go.wp_at_zero Go.wp_at_succ
theorem Qcy.ex {N:Qam} {ls:List (List Int)} {cl:List Int} (hok:Qap N) (hP:Qaw N.vs.length ls) (h:Qcy N ls cl) (j:Nat) (l:List Int) (a b:Nat) (y z:Tri) (hl:ls[j]?=some l) (hy:N.ar[a]?=some y) (hz:N.ar[b]?=some z) (h1:Qaa l y.1≠Qaa l y.2.1) (h2:Qaa l z.1=Qaa l y.2.1) (h3:Qaa l z.2.1≠Qaa l y.2.1):∃ v,Qfi N (Qbv l (Qaa l y.2.1)) a b v:=by
 obtain ⟨_,_,_,_,v,_,_,_,_,_,_,hv⟩:=h.ent hok hP hl hy hz h1 h2 h3;exact ⟨v,hv⟩
theorem next_ok (w:World)(qb g o:Nat)(N:Qam) (ls:List (List Int)) (s t:Nat) (CA:Option Addr) (NC cC:Nat) (cl:List Int) (Q:Option Addr) (L cq mb bb na a:Nat) (y:Tri) (av:List Int) (G:Nat→Prop) (n:Nat) (f:Nat→Nat→Option Value) (h:QR (msk w G) qb g o N ls s t CA NC cC cl Q L cq mb bb na) (hGm:¬G mb)
 (hm:MpQ w mb n f) (hn:n≤1000000) (hmc:MpC w G N.ar ls f) (hok:Qap N) (hP:Qaw N.vs.length ls) (hA:Qcy N ls cl) (hcc:NC≤cC∧cC≤9223372036854775807) (hSm:Qbx (Qac N.ar ls)≤1000000000) (hy:N.ar[a]?=some y) (hg:Qxy N ls av a) :
 Calls prog 104 #[.pointer (some ⟨qb,0,none⟩),.int .i64 ((Qgt ls (toV N a) av:Nat):Int),.int .i64 a] w (NxtR w G mb n N ls av a):=by
 cases hJ:Qgt ls (toV N a) av with
 | succ j=>exact next1_ok w qb g o N ls s t CA NC cC cl Q L cq mb bb na a (j+1) j y av G n f h hGm hm hn hmc hok hP hA hcc hSm hy hg hJ rfl
 | zero =>
  refine (next0_ok w qb g o N ls s t CA NC cC cl Q L cq mb bb na a y (h.le (Qat _ _)) hok hy).mono ?_;rintro e w' ⟨O,C,nO,cO,cC',rfl,h1,h2,h3,hb⟩;have hx:Nxw mb w w':=Nxw.below hb hm.lt;have hle:Le (msk w' (fun b=>w.heap.size≤b∧b<w'.heap.size)) (msk w' (G2 G w w')):=Qbk (fun _ hb=>.inr hb);exact ⟨O,C,nO,cO,cC',n,_,_,f,rfl,Qvl hok hy hJ,h1.le hle,h2.le hle,hm.below hb,by omega,hmc.le (G2.le hx hGm),hx,h3⟩
theorem Qpu {c v w:Int}(hc:0≤c)(hv:0≤v)(hw:0≤w)(h:1152921504606846976≤v∨1152921504606846976≤w):Qex (Qex c v) w=1152921504606846976:=by
 unfold Qex
 split <;> split <;> omega
theorem Qsy {c v w:Int}(hw:0≤w) (h:c+(v+w)<1152921504606846976):Qex (Qex c v) w=c+(v+w):=by
 unfold Qex
 split <;> split <;> omega
def RunO (w:World)(N:Qam) (ls:List (List Int)) (av:List Int) (s t:Nat) (e:Ending) (w':World):Prop :=
 ∃ v A n c hs,e=.returned (.tuple #[.int .i64 v,.slice A n c])∧RunP N ls av s t v hs∧RdH w' A n (hs.map (Qse N ls av))∧n≤16384∧∀ b,Qab A=some b→w.heap.size≤b
set_option maxRecDepth 20000 in
set_option maxHeartbeats 4000000 in
theorem run_ok (w:World)(qb g o:Nat)(N:Qam) (ls:List (List Int)) (s t:Nat) (CA:Option Addr) (NC cC:Nat) (cl:List Int) (Q:Option Addr) (L cq mb bb na B:Nat) (xs xt:Tri) (h:QR (msk w (fun b=>b<w.heap.size∧b≠bb∧b≠mb)) qb g o N ls s t CA NC cC cl Q L cq mb bb na)
 (hm:MpQ w mb 0 (fun _ _=>none)) (hB:Blk w bb 3 (Qcj (List.replicate na 0))) (hok:Qap N) (hP:Qaw N.vs.length ls) (hA:Qcy N ls cl) (hcc:NC≤cC∧cC≤9223372036854775807) (hSm:Qbx (Qac N.ar ls)≤1000000000) (hxs:N.ar[s]?=some xs) (hxt:N.ar[t]?=some xt) (hna:na=N.ar.length) (hBB:B≤mb∧B≤bb∧mb≠bb) :
 Calls prog 47 #[.pointer (some ⟨qb,0,none⟩)] w fun e w'=>RunO w N ls [toV N s,frV N t] s t e w'∧Below B w w':=by
 obtain ⟨av,hav⟩:∃ av,av=[toV N s,frV N t]:=⟨_,rfl⟩;have hE:=hA.ex hok hP;have hsn:s<na:=by rw [hna];exact (Zs hxs).1
 have htn:t<na:=by rw [hna];exact (Zs hxt).1
 have hna4:na≤16384:=by rw [hna];exact hok.la
 have HAV:=Zh (show toV N s∈av∧frV N t∈av by rw [hav];simp)
 have HE:=Zh hE;have HOK:=Zh hok;have HP:=Zh hP;have HNA:=Zh hna;have HXS:=Zh hxs;have HBB:=Zh hBB;have hmk:=Qkv na (by omega);obtain ⟨G0,hG0⟩:∃ G0:Nat→Prop,G0=fun b=>b<w.heap.size∧b≠bb∧b≠mb:=⟨_,rfl⟩
 rw [←hG0] at h;have HQ:=Zh h;have HM:=Zh hm;have HB:=Zh hB
 have HG0:=Zh (show (∀ b,G0 b→b<w.heap.size)∧¬G0 mb∧¬G0 bb∧∀ b,b<B→G0 b from by
  have:=hm.lt;subst hG0;exact ⟨fun b h=>h.1,fun h=>h.2.2 rfl,fun h=>h.2.1 rfl,fun b h=>⟨by omega,by omega,by omega⟩⟩)
 clear hG0
 have HLV:=Zh (show ∀ V,QR V qb g o N ls s t CA NC cC cl Q L cq mb bb na→∀ (p:Nat) (x:Tri),N.ar[p]?=some x→Calls prog 105 #[.pointer (some ⟨qb,0,none⟩),.int .i64 p] V fun e w'=>e=.returned (.int .i64 ((Qgt ls (toV N p) av:Nat):Int))∧Below V.heap.size V w' from fun V hV p x hx=>by
  rw [hav];exact Qof V qb g o N ls s t CA NC cC cl Q L cq mb bb na p x xs xt hV hok hP hx hxs hxt)
 have HNX:=Zh (fun (V:World) (G:Nat→Prop) (n a:Nat) (f:Nat→Nat→Option Value) (y:Tri) (hV:QR (msk V G) qb g o N ls s t CA NC cC cl Q L cq mb bb na) (hGm:¬G mb) (hm:MpQ V mb n f) (hn:n≤1000000) (hmc:MpC V G N.ar ls f) (hy:N.ar[a]?=some y) (hg:Qxy N ls av a)=>next_ok V qb g o N ls s t CA NC cC cl Q L cq mb bb na a y av G n f hV hGm hm hn hmc hok hP hA hcc hSm hy hg)
 have HHP:=Zh (show ∀ (V:World) (bf:List Int) (dn:Nat→Option Int) (c0:Int) (hs:List (Nat×Nat)),QR V qb g o N ls s t CA NC cC cl Q L cq mb bb na→Blk V bb 3 (Qcj bf)→bf.length=na→Via N ls av s bf dn t c0 hs→hs.length≤16384→Calls prog 103 #[.pointer (some ⟨qb,0,none⟩)] V fun e w'=>(∃ A n c,e=.returned (.slice A n c)∧RdH w' A n (hs.map (Qse N ls av))∧n≤16384∧∀ b,Qab A=some b→V.heap.size≤b)∧Below V.heap.size V w' from fun V bf dn c0 hs h1 h2 h3 h4 h5=>by
  rw [hav] at h4 ⊢;exact hops_ok V qb g o N ls s t CA NC cC cl Q L cq mb bb na bf dn c0 hs xs xt h1 hok hP hxs hxt h2 h3 hna h4 h5)
 rw [←hav];clear hav;have HWE:=Zh (fun (V:World) (hV:Qes V g N) (b:Nat) (y:Tri) (hy:N.ar[b]?=some y)=>Qgj g b N y V hV hy);have hw9:=(Qbr hxs).2.2;obtain ⟨z0,hz0⟩:∃ z,z=xs.2.2:=⟨_,rfl⟩;have hzb:=Qdq (hok.arcs xs (Zm hxs)).w;have HZS:=Zh (show wV N s=z0 by rw [hw9,hz0])
 rw [←hz0] at hzb;have HW0:=Zh (show Calls prog 83 #[.pointer (some ⟨g,0,none⟩),.int .i64 s] w.drew fun e w'=>e=.returned (.int .i64 z0)∧w.drew=w' from by rw [hz0];exact HWE.out _ ((h.gr.le (Qat _ _)).below (Zr _ _).drew) s xs hxs)
 have hq:=h.le (Qat _ _);have HSX:=Zh (show ∀ V,V=w.drew→V.cell? ⟨qb,0,none⟩=some (.pointer (some ⟨g,0,none⟩))∧V.cell? ⟨qb,3,none⟩=some (.int .i64 s) from fun V hV=>by subst hV;exact ⟨hq.q0,hq.q3⟩)
 have q7:=hq.q7;have q3:=hq.q3;have hql:=Qaj q7;simp only at hql;clear h hm hB hok hP hA hcc hSm hxs hxt hna hBB hE hw9 hz0 hq
 go_enter func47,ntmps47
 go_wp2_with fail
 refine wp_region_held_drew (S:=fun V=>V=w.drew) (by kernel_rfl) rfl (fun _=>?_);refine tz 0 14 ?_;refine tz 1 15 ?_;refine tz 2 16 ?_;refine tz 3 17 ?_;refine tz 4 18 ?_;refine tz 5 19 ?_;refine tz 6 20 ?_;refine tz 7 21 ?_;refine Zk 8 (fun K hK=>?_);go_simp;with_reducible refine HW0.out.mono ?_
 rintro r w' ⟨rfl,rfl⟩;go_simp;refine hK.out _ _ rfl (fun _=>?_);clear hK K;refine tz 9 23 ?_;refine Zd ?_;clear HW0 HSX
 by_cases hinf:z0=1152921504606846976
 · have e1:(1152921504606846976:Int)≤z0:=by omega
   have HBd:=Zh ((Zr B w).drew)
   go_wp2_with fail
   refine bodyPost_ret (v:=.tuple #[.int .i64 1152921504606846976,.slice none 0 0]) (by simp [results,results47,go_sem]) rfl ?_;exact ⟨⟨_,none,0,0,[],rfl,.inl ⟨by rw [HZS.out];exact hinf,rfl,rfl⟩,⟨rfl,fun i x h=>by simp at h⟩,by omega,fun b hb=>by cases hb⟩,HBd.out⟩
 have e1:¬(1152921504606846976:Int)≤z0:=by omega
 have HNI:=Zh (show wV N s≠1152921504606846976 by rw [HZS.out];exact hinf)
 clear hinf hzb
 go_wp2_with fail
 (refine Qae ?_;intro w1 hw1)
 have hb1:Below w.heap.size w w1:=by rw [hw1];exact Qah
 obtain ⟨db,hdb⟩:∃ db,db=w.heap.size:=⟨_,rfl⟩;have D1:Blk w1 db 4 (Qff (List.replicate na false)):=by rw [hw1,hdb,←Qia];exact Qbh
 have HZ1:=Zh (show w1.heap.size=db+1 by rw [hw1,hdb];simp)
 have x7:=Zc hb1 (Zn _) q7;have HHN:=Zh (Qmn w1 na hna4);have HD1:=Zh D1;have HB1:=Zh hb1;have HDB:=Zh hdb;rw [←hdb];clear hw1 D1 hb1 hdb q7 hmk hql;with_reducible refine HHN.out.mono ?_
 rintro r w2 ⟨gh,rfl,hh,hb2⟩;have x3:=Zc (Zb HB1.out hb2) (Zn _) q3
 have HW2:=Zh (show Qno w2 G0 qb g o N ls s t CA NC cC cl Q L cq mb bb db gh na 0 (fun _ _=>none) (List.replicate na 0) (List.replicate na false) (fun _=>none) from by
  have hb02:=Zb HB1.out hb2;have hle:Le (msk w G0) (msk w2 G0):=Qbc.msk (Qbc.below hb02);have g1:=HG0.out;have g2:=HM.out.lt;have g3:=HB.out.lt;have g4:=HDB.out;have g5:=HZ1.out;have g6:=hb02.size;refine ⟨HQ.out.le hle,HM.out.below hb02,fun i k u hu=>(by cases hu),HB.out.below hb02 g3,HD1.out.below hb2 HD1.out.lt,hh.less (fun b hb=>?_),fun b hb=>?_,⟨g1.2.1,g1.2.2.1,fun h=>?_,HBB.out.2.2,by omega,by omega⟩,by omega⟩
  · rcases hb with h1|rfl|rfl|rfl
    · have:=g1.1 b h1;omega
    all_goals omega
  · have:=g1.1 b hb;omega
  · have:=g1.1 _ h;omega)
 have HPU:=Zh (Qfn w2 _ HW2.out.hh s hsn 0 (by omega) (by omega));have HB2:=Zh ((Zb HB1.out hb2).mono (show B≤w.heap.size by have:=HBB.out.1;have:=HM.out.lt;omega))
 clear hh hb2 q3 x7 HHN HD1
 go_wp2_with fail
 with_reducible refine HPU.out.mono ?_
 rintro r w3 ⟨rfl,hh3,ha3⟩;have HW3:=Zh (HW2.out.heap hh3 ha3);have HB3:=Zh (HB2.out.trans (ha3.bel B (fun b hb=>.inl (HG0.out.2.2.2 b hb))));have HI3:=Zh (Qui.init (N:=N) (ls:=ls) (av:=av) (s:=s) (t:=t) (na:=na));clear hh3 ha3 x3 HPU HW2 HB2
 go_wp2_with fail
 go_loopw [] (fun W=>∃ (G:Nat→Prop) (n:Nat) (f:Nat→Nat→Option Value) (bf:List Int) (dnf hp:Nat→Option Int) (dn:List Bool),Qno W G qb g o N ls s t CA NC cC cl Q L cq mb bb db gh na n f bf dn hp∧Qui N ls av s t na dnf hp dn bf∧(∀ b,b<B→G b)∧Below B w W) (fun W=>na-doneW db W)
 case atStart=>exact ⟨_,_,_,_,_,_,_,HW3.out,HI3.out,HG0.out.2.2.2,HB3.out⟩
 case round =>
  clear HW3 HI3 HB3;obtain ⟨G,n,f,bf,dnf,hp,dn,hw,hi,hG,hb⟩:=hrel;have HWr:=Zh hw;have HIr:=Zh hi;have HGr:=Zh hG;have HBr:=Zh hb;have HPO:=Zh (Qmj wr hp hw.hh);clear hw hi hG hb
  go_wp2_with fail
  with_reducible refine HPO.out.mono ?_
  rintro e w7 ⟨h7,ha7⟩;have HB7:=Zh (HBr.out.trans (ha7.bel B (fun b hb=>.inl (HGr.out b hb))));have HA7:=Zh ha7;clear ha7
  rcases h7 with ⟨hno,rfl,hh⟩|⟨k,z,hkn,hkz,hmin,rfl,hh⟩
  · have HD:=Zh (HIr.out.miss HOK.out hno)
    clear hno hh
    go_wp2_with fail
    refine bodyPost_ret (v:=.tuple #[.int .i64 1152921504606846976,.slice none 0 0]) (by simp [results,results47,go_sem]) rfl ?_;exact ⟨⟨_,none,0,0,[],rfl,.inr ⟨HNI.out,HD.out,.inl ⟨rfl,rfl⟩⟩,⟨rfl,fun i x h=>by simp at h⟩,by omega,fun b hb=>by cases hb⟩,HB7.out⟩
  · have HW7:=Zh (HWr.out.heap hh HA7.out)
    have HMI:=Zh hmin;have HKZ:=Zh hkz;have q4:=(HW7.out.qr.le (Qat _ _)).q4;clear hh hmin hkz
    by_cases hkt:k=t
    · subst hkt
      have HD:=Zh (HIr.out.hit HOK.out HKZ.out HMI.out);obtain ⟨hs,hvia,hlen⟩:=HIr.out.via.wait k z HKZ.out;have hcl:=Qjk dn;have HHO:=Zh (HHP.out w7 bf dnf z hs (HW7.out.qr.le (Qat _ _)) HW7.out.bfB HIr.out.lb hvia (by have:=HIr.out.ld;omega));have HVI:=Zh hvia;clear hvia hlen hcl
      go_wp2_with fail
      with_reducible refine HHO.out.mono ?_
      rintro e w8 ⟨⟨A,n',c,rfl,hr,hn',hgt⟩,hb8⟩;have HR:=Zh hr;have HB8:=Zh (HB7.out.trans (hb8.mono (Yx (show B≤w.heap.size by have:=HBB.out.1;have:=HM.out.lt;omega) HB7.out.size)))
      clear hr hb8
      go_wp2_with fail
      refine bodyPost_ret (v:=.tuple #[.int .i64 z,.slice A n' c]) (by simp [results,results47,go_sem]) rfl ?_;exact ⟨⟨z,A,n',c,hs,rfl,.inr ⟨HNI.out,HD.out,.inr HVI.out.hopP⟩,HR.out,hn',fun b hb=>Yx HB7.out.size (hgt b hb)⟩,HB8.out⟩
    · have hne:¬(k:Int)=(t:Int):=by omega
      have hfree:=HIr.out.free hkn HKZ.out;have HKT:=Zh hkt;obtain ⟨xk,hxk⟩:∃ xk,N.ar[k]?=some xk:=⟨_,Zg (by rw [←HNA.out];exact hkn)⟩;have HXK:=Zh hxk;have hkl:k<dn.length:=by rw [HIr.out.ld];exact hkn
      have dk:=HW7.out.dd.cellB (i:=k) (Qbn false hkl);have df:=HW7.out.dd.frozen k;have HW8:=Zh (HW7.out.done k);have HDK:=Zh hfree.2;have HKL:=Zh hkl;have HB8:=Zh (HB7.out.setCell (p:=⟨db,k,none⟩) (by show B≤db;have:=HDB.out;have:=HBB.out.1;have:=HM.out.lt;omega) (.bool true))
      have hkn':(k:Int)<(na:Int):=by omega
      have hk0:(0:Int)≤(k:Int):=by omega
      clear hkt hfree hxk hkl
      go_wp2_with fail
      (refine Qae ?_;intro w8 hw8)
      rw [←hw8] at HW8 HB8;clear hw8 q4 dk df;with_reducible refine (HLV.out w8 (HW8.out.qr.le (Qat _ _)) k xk HXK.out).mono ?_
      rintro e w9 ⟨rfl,hb9⟩;have HW9:=Zh (HW8.out.below hb9);have HB9:=Zh (HB8.out.trans (hb9.mono (Nat.le_of_lt (Nat.lt_of_le_of_lt HBB.out.1 HW8.out.mq.lt))));have HTK:=Zh (fun os cs=>HIr.out.take (os:=os) (cs:=cs) HOK.out HP.out HE.out ⟨_,HXS.out⟩ HAV.out.1 hkn HKZ.out HMI.out HKT.out);have hcl:=Qjk (dn.set k true);rw [Yq,HIr.out.ld] at hcl;have hnn:=HW9.out.nn;have HNO:=Zh (HNX.out w9 G n k f xk HW9.out.qr HW9.out.nb.1 HW9.out.mq (by omega) HW9.out.mc HXK.out (HTK.out [] []).2);clear hb9 hcl hnn HW8 HB8
      go_wp2_with fail
      with_reducible refine HNO.out.mono ?_
      rintro e w10 ⟨O,C,nO,cO,cC',n',os,cs,f',rfl,hnp,hO,hC,hmq,hn',hmc,hx,hnO⟩;have HNN:=Zh (show n'≤(dn.set k true).countP (fun b=>b) by have:=HWr.out.nn;rw [Qeb HKL.out HDK.out];omega)
      have HW10:=Zh (HW9.out.nxt hx hmq hmc HNN.out);have HB10:=Zh (HB9.out.trans (hx.bel B HBB.out.1));have HJ10:=Zh (HTK.out os cs).1;obtain ⟨GG,hGG⟩:∃ GG,GG=G2 G w9 w10:=⟨_,rfl⟩;rw [←hGG] at HW10 hO hC;have HGG:=Zh (show ∀ b,b<B→GG b from fun b hb=>by rw [hGG];exact .inl (HGr.out b hb))
      have HO:=Zh hO;have HC:=Zh hC;have HNP:=Zh hnp;clear hGG hO hC hnp hmq hn' hmc hx HNO HTK HW9 HB9
      go_wp2_with fail
      obtain ⟨wi,hwi⟩:∃ wi,wi=w10:=⟨_,rfl⟩;subst hwi
      go_loopw [73] (fun ui V=>∃ (i:Nat) (hp2:Nat→Option Int) (bf2:List Int),i≤nO∧ui=.int .i64 i∧Qno V GG qb g o N ls s t CA NC cC cl Q L cq mb bb db gh na n' f' bf2 (dn.set k true) hp2∧Qqf N ls av s t na k z os cs i (fun q=>if q=k then some z else dnf q) hp2 (dn.set k true) bf2∧Le (msk wi GG) (msk V GG)∧Below B w V) (fun ui _=>nO-(intOf ui).toNat)
      case atStart=>exact ⟨0,_,_,Nat.zero_le _,rfl,HW10.out,HJ10.out,fun _ _ h=>h,HB10.out⟩
      case round =>
       clear HW10 HJ10 HB10;obtain ⟨i,hp2,bf2,hin,rfl,hw,hj,hle,hb⟩:=hrel;have HWi:=Zh hw;have HJi:=Zh hj;have HLi:=Zh hle;have HBi:=Zh hb;clear hw hj hle hb
       by_cases hlt:i<nO
       rotate_left
       · obtain rfl:i=nO:=by omega
         have j2:¬((i:Int)<(i:Int)):=by omega
         have HIN:=Zh (HJi.out.all HNP.out (by rw [HO.out.1];exact Zn _))
         go_wp2_with fail
         go_roundw
         case rel=>exact ⟨GG,n',f',bf2,_,hp2,_,HWi.out,HIN.out,HGG.out,HBi.out⟩
         case measure =>
          rw [Qiz HWi.out.dd,Qiz HWr.out.dd,Qeb HKL.out HDK.out];have h1:=Qjk (dn.set k true);rw [Qeb HKL.out HDK.out,Yq,HIr.out.ld] at h1;omega
       obtain ⟨ob,oo,zb,rfl,hzb,cO1⟩:=((HO.out.le HLi.out).le (Qat _ _)).at_ hlt;obtain ⟨pb,po,v,rfl,hv,cC1⟩:=((HC.out.le HLi.out).le (Qat _ _)).at_ hlt;obtain ⟨b,y,rfl,hy,hv0,hv9,hst⟩:=HNP.out.to_ i zb v hzb hv;have hyw:=Qdq (HOK.out.arcs y (Zm hy)).w;have hbn:b<na:=by rw [HNA.out];exact (Zs hy).1
       obtain ⟨wy,hwy⟩:∃ wy,wy=y.2.2:=⟨_,rfl⟩;rw [←hwy] at hyw;have hz0:=HJi.out.c0;have hzM:z≤70373039144960:=hz0.2;have j0:(0:Int)≤(i:Int):=by omega
       have j1:(i:Int)<(nO:Int):=by omega
       have q0:=(HWi.out.qr.le (Qat _ _)).q0;have HSX:=Zh (show ∀ V,Below wr.heap.size wr V→V.cell? ⟨pb,po+i,none⟩=some (.int .i64 v)∧V.cell? ⟨qb,0,none⟩=some (.pointer (some ⟨g,0,none⟩)) from fun V hV=>⟨Zc hV (Zn _) cC1,Zc hV (Zn _) q0⟩)
       have HGW:=Zh (show Calls prog 83 #[.pointer (some ⟨g,0,none⟩),.int .i64 b] wr.drew fun e w'=>e=.returned (.int .i64 wy)∧wr.drew=w' from by rw [hwy];exact HWE.out _ ((HWi.out.qr.gr.le (Qat _ _)).below (Zr _ _).drew) b y hy)
       obtain ⟨w11,hw11⟩:∃ w11,w11=(wr.alloc (.cells #[.int .i64 z,.int .i64 v,.int .i64 wy] 2)).drew:=⟨_,rfl⟩;have hb11:Below wr.heap.size wr w11:=by rw [hw11];exact ((Zr _ _).alloc (Zn _) _).drew
       have hrd:RdI w11 (some ⟨wr.heap.size,0,none⟩) 3 [z,v,wy]:=by rw [hw11];exact Blk.rdI (t:=2) (l:=[z,v,wy]) (Blk.new wr 2 (Qcj [z,v,wy])).drew rfl
       have HSU:=Zh (Qqh _ 3 w11 z v wy hrd ⟨hz0.1,by omega⟩ ⟨hv0,hv9⟩ ⟨by omega,by omega⟩);obtain ⟨far,hfar⟩:∃ far,far=Qex (Qex z v) wy:=⟨_,rfl⟩;rw [←hfar] at HSU;have HFR:=Zh hfar;have HWY:=Zh hwy;have HY:=Zh hy;have HZB:=Zh hzb;have HV:=Zh hv;have HST:=Zh hst;have HB11:=Zh hb11;have HW11:=Zh hw11;have HYW:=Zh hyw;clear hzb hv hy hst hwy hfar hb11 hw11 hrd hyw
       go_wp2_with fail
       refine wp_region_held_drew (S:=fun V=>Below wr.heap.size wr V) (by kernel_rfl) (Zr _ _).drew (fun _=>?_);refine tz 0 78 ?_;refine tz 1 79 ?_;refine tz 2 80 ?_;refine tz 3 81 ?_;refine tz 4 82 ?_;refine tz 5 83 ?_;refine tz 6 84 ?_;refine tz 7 85 ?_;refine tz 8 86 ?_;refine tz 9 87 ?_;refine Zk 10 (fun K hK=>?_);go_simp;with_reducible refine HGW.out.mono ?_
       rintro e w' ⟨rfl,rfl⟩;go_simp;refine hK.out _ _ (Zr _ _).drew (fun _=>?_);clear hK K;refine Zk 11 (fun K hK=>?_);go_simp;rw [←HW11.out];refine hK.out _ _ HB11.out (fun _=>?_);clear hK K;refine Zk 12 (fun K hK=>?_);go_simp;with_reducible refine HSU.out.mono ?_
       rintro e w' ⟨rfl,rfl⟩;go_simp;refine hK.out _ _ HB11.out (fun _=>?_);clear hK K;refine tz 13 13 ?_;refine Zd ?_;have HWj:=Zh (HWi.out.below HB11.out);have HLj:=Zh (HLi.out.trans (Qbc.msk (G:=GG) (Qbc.below HB11.out)));have HBj:=Zh (HBi.out.trans (HB11.out.mono (Nat.le_of_lt (Nat.lt_of_le_of_lt HBB.out.1 HWi.out.mq.lt))));clear HSX HGW HSU HW11 cO1 cC1 q0
       by_cases hno:v=1152921504606846976∨wy=1152921504606846976
       · have hff:¬far<1152921504606846976:=by
          have:=HYW.out;rw [HFR.out,Qpu hz0.1 hv0 (by omega) (by omega)];omega
         have HJX:=Zh (HJi.out.skip HZB.out HV.out HY.out (by rw [←HWY.out];exact hno));have HWX:=HWj;have HLX:=HLj;have HBX:=HBj;clear hno
         go_wp2_with fail
         go_roundw
         case rel=>exact ⟨i+1,_,_,by omega,by go_num,HWX.out,HJX.out,HLX.out,HBX.out⟩
         case measure=>simp [intOf];omega
       · have HS:=Zh (HST.out (fun e=>hno (.inl e)) (fun e=>hno (.inr (by rw [HWY.out];exact e))))
         have hsb:=HS.out.bd HOK.out;rw [←HWY.out] at hsb;have hyw:=HYW.out;have hfe:far=z+(v+wy):=by rw [HFR.out,Qsy (by omega) (by omega)]
         have hff:far<1152921504606846976:=by omega
         have hf0:0≤far:=by omega
         have HFE:=Zh hfe;have hbl:b<(dn.set k true).length:=by rw [HJi.out.ld];exact hbn
         have db0:=HWj.out.dd.cellB (i:=b) (Qbn false hbl);have k0:(0:Int)≤(b:Int):=by omega
         have k1:(b:Int)<(na:Int):=by omega
         obtain ⟨dd,hdd⟩:∃ dd,dd=(dn.set k true).getD b false:=⟨_,rfl⟩;rw [←hdd] at db0;have HDD:=Zh hdd;clear hno hsb hyw hfe hbl hdd
         cases dd with
         | true =>
          have HJX:=Zh (HJi.out.off HZB.out HV.out HY.out HS.out hbn HDD.out.symm);have HWX:=HWj;have HLX:=HLj;have HBX:=HBj
          go_wp2_with fail
          go_roundw
          case rel=>exact ⟨i+1,_,_,by omega,by go_num,HWX.out,HJX.out,HLX.out,HBX.out⟩
          case measure=>simp [intOf];omega
         | false =>
          have hput:=HJi.out.put HOK.out HZB.out HV.out HY.out HS.out hbn HDD.out.symm;rw [←HWY.out,←HFE.out] at hput;have HJP:=Zh hput;have HPU:=Zh (Qfn w11 hp2 HWj.out.hh b hbn far hf0 (by omega));obtain ⟨pb2,hpb2⟩:∃ x,x=Qlg hp2 b far:=⟨_,rfl⟩;rw [←hpb2] at HPU HJP;clear hput
          go_wp2_with fail
          with_reducible refine HPU.out.mono ?_
          rintro e w12 ⟨rfl,hh12,ha12⟩;have HW12:=Zh (HWj.out.heap hh12 ha12);have HL12:=Zh (HLj.out.trans (Qbc.msk (G:=GG) (ha12.kept.mono (fun _ hb=>.inl hb))));have HB12:=Zh (HBj.out.trans (ha12.bel B (fun b hb=>.inl (HGG.out b hb))));clear hh12 ha12 HPU hpb2 db0
          cases pb2 with
          | false =>
           have HJX:=Zh (show Qqf N ls av s t na k z os cs (i+1) (fun q=>if q=k then some z else dnf q) (Qen hp2 b far) (dn.set k true) bf2 from HJP.out)
           have HWX:=HW12;have HLX:=HL12;have HBX:=HB12
           go_wp2_with fail
           go_roundw
           case rel=>exact ⟨i+1,_,_,by omega,by go_num,HWX.out,HJX.out,HLX.out,HBX.out⟩
           case measure=>simp [intOf];omega
          | true =>
           have q7:=(HW12.out.qr.le (Qat _ _)).q7;have hbb2:b<bf2.length:=by rw [HJi.out.lb];exact hbn
           obtain ⟨ov,hov⟩:∃ ov,bf2[b]?=some ov:=⟨_,Zg hbb2⟩;have b0:=HW12.out.bfB.cellI hov;have bz:=HW12.out.bfB.frozen b;have HJX:=Zh (show Qqf N ls av s t na k z os cs (i+1) (fun q=>if q=k then some z else dnf q) (Qen hp2 b far) (dn.set k true) (bf2.set b (k:Int)) from HJP.out)
           have HWX:=Zh (HW12.out.bef b k);have HLX:=Zh (HL12.out.trans (Qbc.msk (G:=GG) (Qbc.set w12 bb b (.int .i64 (k:Int)) HW12.out.nb.2.1)));have HBX:=Zh (HB12.out.setCell (p:=⟨bb,b,none⟩) HBB.out.2.1 (.int .i64 (k:Int)));clear hov hbb2
           go_wp2_with fail
           go_roundw
           case rel=>exact ⟨i+1,_,_,by omega,by go_num,HWX.out,HJX.out,HLX.out,HBX.out⟩
           case measure=>simp [intOf];omega
def Qll (N:Qam) (ls:List (List Int)):Nat→Nat→Nat→Int→Prop
 | 0=>PrT N
 | k+1=>Qcs N (ls.getD k [])
structure OpD (E:OD) (dl bf:List Int) (R:Int) (n:Nat):Prop where
 ld:dl.length=E.na
 lb:bf.length=E.na
 le:∀ x∈dl,x≤R
 n:(n:Int)≤16384*R
section
variable {N:Qam} {ls:List (List Int)} {cl:List Int} {j s to a:Nat} {l:List Int} {c:Nat} {v:Int}
theorem Qhf (hP:Qaw N.vs.length ls) (hl:ls[j]?=some l):l.length=N.vs.length:=(hP.lvl l (Zm hl)).len
theorem Qrb (hok:Qap N)(hP:Qaw N.vs.length ls)(hA:Qcy N ls cl){k:Nat}{lb:List Int} (hb:ls[k]?=some lb) (hl:ls[k+1]?=some l) (hh:Qhc N l c s to v):∃ x,Qrr N l lb c x:=by
 obtain ⟨y,hy,_,h2⟩:=hh.sy;obtain ⟨_,u,_,e2,_,hu⟩:=Qdi hok hy;obtain ⟨c',h3,h4,_⟩:=Qcl (hP.lvl l (Zm hl)) hu;rw [←e2,h2] at h3;obtain rfl:c=c':=by omega
 exact ⟨_,hok,Qhf hP hl,Qhf hP hb,hP.nest k lb l hb hl,Zg (by rw [Qan];exact h4),fun a m y z hy hz h1 h2 h3=>hA.ex hok hP k lb a m y z hb hy hz h1 h2 h3⟩
theorem Qll.succ {k:Nat}{lb:List Int} (hb:ls[k]?=some lb):Qll N ls (k+1)=Qcs N lb:=by
 show Qcs N (ls.getD k [])=Qcs N lb
 rw [Ya,hb]
 rfl
theorem Qyi (hok:Qap N)(hP:Qaw N.vs.length ls)(hA:Qcy N ls cl) (hl:ls[j]?=some l) (hh:Qhc N l c s to v):Qxq (StQ N l c to (Qll N ls j)) s to N.ar.length v:=by
 cases j with
 | zero=>exact hh.ok0 hok (Qhf hP hl)
 | succ k =>
  obtain ⟨lb,hb⟩:∃ lb,ls[k]?=some lb:=⟨_,Zg (by have:=(Zs hl).1;omega)⟩;rw [Qll.succ hb];obtain ⟨x,hx⟩:=Qrb hok hP hA hb hl hh;exact hx.okK hh
theorem reach_in (hok:Qap N)(hP:Qaw N.vs.length ls)(hA:Qcy N ls cl){k:Nat}{lb:List Int} (hb:ls[k]?=some lb) (hl:ls[k+1]?=some l) (hh:Qhc N l c s to v) {e:Int} (hr:Rch (StQ N l c to (Qll N ls (k+1))) s a e) (ha:a≠to):∃ y,N.ar[a]?=some y∧Qaa lb y.1≠Qaa lb y.2.1:=by
 rw [Qll.succ hb] at hr;obtain ⟨x,hx⟩:=Qrb hok hP hA hb hl hh;obtain ⟨y,hy,h1,_⟩:=((Qvi hx hh hr).1 ha).2;exact ⟨y,hy,h1⟩
theorem opS_to {b:Nat}{p:Int}{y:Tri} (hy:N.ar[b]?=some y) (hp:p≠1152921504606846976) (e:b=to):OpS N l c to b p p:=⟨y,hy,hp,.inl ⟨e,rfl⟩⟩
theorem opS_in {b:Nat}{p:Int}{y:Tri} (hy:N.ar[b]?=some y) (hp:p≠1152921504606846976) (e:b≠to) (h1:Qaa l y.1=c) (h2:Qaa l y.2.1=c) (h3:y.2.2≠1152921504606846976):OpS N l c to b p (p+y.2.2):=⟨y,hy,hp,.inr ⟨e,h1,h2,h3,rfl⟩⟩
theorem Qwq {b:Nat}{p:Int}{y:Tri} (hy:N.ar[b]?=some y) (h:p=1152921504606846976∨(b≠to∧(¬(Qaa l y.1=c∧Qaa l y.2.1=c)∨y.2.2=1152921504606846976))) (d:Int):¬OpS N l c to b p d:=by
 rintro ⟨z,hz,h1,h2⟩;rw [hy] at hz
 cases hz
 rcases h with h|⟨h3,h4⟩
 · exact h1 h
 · rcases h2 with ⟨h2,_⟩|⟨_,h5,h6,h7,_⟩
   · exact h3 h2
   · rcases h4 with h4|h4
     · exact h4 ⟨h5,h6⟩
     · exact h7 h4
end
structure NqS (B0:Nat) (w W:World) (ls:List (List Int)) (na:Nat) (K:Nat→Prop) (P:Option (Option Addr)) (M H B D:Option Nat):Prop where
 bel:Below w.heap.size w W
 k0:∀ b,b<B0→K b
 k1:∀ b,K b→b<B0∨w.heap.size≤b
 kl:∀ b,K b→b<W.heap.size∧M≠some b∧B≠some b∧D≠some b
 p:∀ Q,P=some Q→RdT (msk W K) Q ls.length ls
 m:∀ b,M=some b→MpQ W b 0 (fun _ _=>none)∧w.heap.size≤b∧B≠some b∧D≠some b
 b:∀ b,B=some b→Blk W b 3 (Qcj (List.replicate na 0))∧w.heap.size≤b∧D≠some b
 d:∀ b,D=some b→Blk W b 3 (Qcj (List.replicate na 0))∧w.heap.size≤b
 h:∀ g,H=some g→Qco W (fun b=>(K b∨b<w.heap.size)∨M=some b∨B=some b∨D=some b) g na (fun _=>none)
section
variable {B0:Nat} {w W W':World} {ls:List (List Int)} {na:Nat} {K:Nat→Prop} {P:Option (Option Addr)} {M H B D:Option Nat}
theorem NqS.start (w:World) (ls:List (List Int)) (na:Nat) (hB:B0≤w.heap.size):NqS B0 w w.drew ls na (fun b=>b<B0) none none none none none :=
 ⟨(Zr _ _).drew,fun _ h=>h,fun _ h=>.inl h,fun _ h=>⟨Yu h hB,by simp,by simp,by simp⟩,fun _ h=>(by cases h),fun _ h=>(by cases h),fun _ h=>(by cases h),fun _ h=>(by cases h),fun _ h=>(by cases h)⟩
theorem NqS.part {Q:Option Addr}(h:NqS B0 w W ls na K none M none none none) (hQ:RdT (msk W' (fun b=>W.heap.size≤b∧b<W'.heap.size)) Q ls.length ls) (hb:Below W.heap.size W W'):NqS B0 w W' ls na (fun b=>K b∨(W.heap.size≤b∧b<W'.heap.size)) (some Q) M none none none:=by
 have hs:=hb.size;refine ⟨Zb h.bel hb,fun b hb'=>.inl (h.k0 b hb'),fun b hb'=>hb'.elim (h.k1 b) (fun h1=>.inr (Yx h.bel.size h1.1)),fun b hb'=>?_,fun Q' e=>?_,fun b e=>?_,fun _ h=>(by cases h),fun _ h=>(by cases h),fun _ h=>(by cases h)⟩
 · rcases hb' with h1|h1
   · have:=h.kl b h1;exact ⟨by omega,this.2.1,by simp,by simp⟩
   · exact ⟨h1.2,fun e=>by have:=(h.m b e).1.lt;omega,by simp,by simp⟩
 · cases e
   exact hQ.le (Qbk (fun _ hb=>.inr hb))
 · obtain ⟨h1,h2,_,_⟩:=h.m b e
   exact ⟨h1.below hb,h2,by simp,by simp⟩
theorem NqS.map (h:NqS B0 w W ls na K P none H B D):NqS B0 w (W.alloc (.map #[] 0)) ls na K P (some W.heap.size) H B D:=by
 have hb:Below W.heap.size W (W.alloc (.map #[] 0)):=(Zr _ _).alloc (Zn _) _;have hle:Le (msk W K) (msk (W.alloc (.map #[] 0)) K):=Qbc.msk (Qbc.below hb);have hs:=hb.size;refine ⟨Zb h.bel hb,h.k0,h.k1,fun b hb'=>?_,fun Q e=>(h.p Q e).le hle,fun b e=>?_,fun b e=>?_,fun b e=>?_,fun g e=>(h.h g e).more hb (fun b hb'=>?_)⟩
 · have:=h.kl b hb'
   exact ⟨by omega,fun e=>by cases e;omega,this.2.2⟩
 · cases e
   exact ⟨MpQ.new W,h.bel.size,fun e=>by have:=(h.b _ e).1.lt;omega,fun e=>by have:=(h.d _ e).1.lt;omega⟩
 · obtain ⟨h1,h2⟩:=h.b b e
   exact ⟨h1.below hb h1.lt,h2⟩
 · obtain ⟨h1,h2⟩:=h.d b e
   exact ⟨h1.below hb h1.lt,h2⟩
 · rcases hb' with h1|h1|h1|h1
   · have:b<W.heap.size:=h1.elim (fun h2=>(h.kl b h2).1) (fun h2=>Yu h2 h.bel.size)
     exact ⟨by omega,.inl (.inl h1)⟩
   · cases h1;exact ⟨by simp [World.size_alloc],.inr (Zn _)⟩
   · have:=(h.b b h1).1.lt;exact ⟨by omega,.inl (.inr (.inr (.inl h1)))⟩
   · have:=(h.d b h1).1.lt;exact ⟨by omega,.inl (.inr (.inr (.inr h1)))⟩
theorem NqS.heap {g:Nat}(h:NqS B0 w W ls na K P M none B D) (hh:Qco W' (fun b=>b<W.heap.size) g na (fun _=>none)) (hb:Below W.heap.size W W'):NqS B0 w W' ls na K P M (some g) B D:=by
 have hle:Le (msk W K) (msk W' K):=Qbc.msk (Qbc.below hb);have hs:=hb.size;refine ⟨Zb h.bel hb,h.k0,h.k1,fun b hb'=>?_,fun Q e=>(h.p Q e).le hle,fun b e=>?_,fun b e=>?_,fun b e=>?_,fun g' e=>?_⟩
 · have:=h.kl b hb'
   exact ⟨by omega,this.2⟩
 · obtain ⟨h1,h2⟩:=h.m b e
   exact ⟨h1.below hb,h2⟩
 · obtain ⟨h1,h2⟩:=h.b b e
   exact ⟨h1.below hb h1.lt,h2⟩
 · obtain ⟨h1,h2⟩:=h.d b e
   exact ⟨h1.below hb h1.lt,h2⟩
 · cases e
   refine hh.less (fun b hb'=>?_)
   rcases hb' with h1|h1|h1|h1
   · exact h1.elim (fun h2=>(h.kl b h2).1) (fun h2=>Yu h2 h.bel.size)
   · exact (h.m b h1).1.lt
   · exact (h.b b h1).1.lt
   · exact (h.d b h1).1.lt
theorem NqS.bb (h:NqS B0 w W ls na K P M H none none):NqS B0 w (W.alloc (.cells (Qbp (.int .i64 0) na) 3)) ls na K P M H (some W.heap.size) none:=by
 have hb:Below W.heap.size W (W.alloc (.cells (Qbp (.int .i64 0) na) 3)):=(Zr _ _).alloc (Zn _) _;have hle:Le (msk W K) (msk (W.alloc (.cells (Qbp (.int .i64 0) na) 3)) K):=Qbc.msk (Qbc.below hb);have hs:=hb.size;refine ⟨Zb h.bel hb,h.k0,h.k1,fun b hb'=>?_,fun Q e=>(h.p Q e).le hle,fun b e=>?_,fun b e=>?_,fun b e=>(by cases e),fun g e=>(h.h g e).more hb (fun b hb'=>?_)⟩
 · have:=h.kl b hb'
   exact ⟨by omega,this.2.1,fun e=>by cases e;omega,by simp⟩
 · obtain ⟨h1,h2,_,_⟩:=h.m b e
   exact ⟨h1.below hb,h2,fun e=>by cases e;have:=h1.lt;omega,by simp⟩
 · cases e
   exact ⟨by rw [←Qcf];exact Blk.new _ _ _,h.bel.size,by simp⟩
 · rcases hb' with h1|h1|h1|h1
   · have:b<W.heap.size:=h1.elim (fun h2=>(h.kl b h2).1) (fun h2=>Yu h2 h.bel.size)
     exact ⟨by omega,.inl (.inl h1)⟩
   · have:=(h.m b h1).1.lt;exact ⟨by omega,.inl (.inr (.inl h1))⟩
   · cases h1;exact ⟨by simp [World.size_alloc],.inr (Zn _)⟩
   · cases h1
theorem NqS.db {bb:Nat} (h:NqS B0 w W ls na K P M H (some bb) none):NqS B0 w (W.alloc (.cells (Qbp (.int .i64 0) na) 3)) ls na K P M H (some bb) (some W.heap.size):=by
 have hb:Below W.heap.size W (W.alloc (.cells (Qbp (.int .i64 0) na) 3)):=(Zr _ _).alloc (Zn _) _;have hle:Le (msk W K) (msk (W.alloc (.cells (Qbp (.int .i64 0) na) 3)) K):=Qbc.msk (Qbc.below hb);have hs:=hb.size;refine ⟨Zb h.bel hb,h.k0,h.k1,fun b hb'=>?_,fun Q e=>(h.p Q e).le hle,fun b e=>?_,fun b e=>?_,fun b e=>?_,fun g e=>(h.h g e).more hb (fun b hb'=>?_)⟩
 · have:=h.kl b hb'
   exact ⟨by omega,this.2.1,this.2.2.1,fun e=>by cases e;omega⟩
 · obtain ⟨h1,h2,h3,_⟩:=h.m b e
   exact ⟨h1.below hb,h2,h3,fun e=>by cases e;have:=h1.lt;omega⟩
 · obtain ⟨h1,h2,_⟩:=h.b b e
   exact ⟨h1.below hb h1.lt,h2,fun e=>by cases e;have:=h1.lt;omega⟩
 · cases e
   exact ⟨by rw [←Qcf];exact Blk.new _ _ _,h.bel.size⟩
 · rcases hb' with h1|h1|h1|h1
   · have:b<W.heap.size:=h1.elim (fun h2=>(h.kl b h2).1) (fun h2=>Yu h2 h.bel.size)
     exact ⟨by omega,.inl (.inl h1)⟩
   · have:=(h.m b h1).1.lt;exact ⟨by omega,.inl (.inr (.inl h1))⟩
   · have:=(h.b b h1).1.lt;exact ⟨by omega,.inl (.inr (.inr (.inl h1)))⟩
   · cases h1;exact ⟨by simp [World.size_alloc],.inr (Zn _)⟩
theorem NqS.swap {bb db:Nat} (h:NqS B0 w W ls na K P M H (some bb) (some db)):NqS B0 w W ls na K P M H (some db) (some bb):=by
 obtain ⟨h1,h2,h3⟩:=h.b bb rfl;obtain ⟨h4,h5⟩:=h.d db rfl;refine ⟨h.bel,h.k0,h.k1,fun b hb=>?_,h.p,fun b e=>?_,fun b e=>?_,fun b e=>?_,fun g e=>(h.h g e).less (fun b hb=>?_)⟩
 · have:=h.kl b hb;exact ⟨this.1,this.2.1,this.2.2.2,this.2.2.1⟩
 · obtain ⟨g1,g2,g3,g4⟩:=h.m b e;exact ⟨g1,g2,g4,g3⟩
 · cases e;exact ⟨h4,h5,fun e=>h3 e.symm⟩
 · cases e;exact ⟨h1,h2⟩
 · rcases hb with h1|h1|h1|h1
   · exact .inl h1
   · exact .inr (.inl h1)
   · exact .inr (.inr (.inr h1))
   · exact .inr (.inr (.inl h1))
end
def NqG (B0:Nat)(w:World) (ls:List (List Int)) (na:Nat) (_v11 v12 v13 _v15 v16 _v18 v19 _v21 v22:Value) (w':World):Prop :=
 ∃ (K:Nat→Prop) (Q:Option Addr) (cq mb hb bb db:Nat),v12=.slice Q ls.length cq∧v13=.map (some mb)∧v16=.pointer (some ⟨hb,0,none⟩)∧v19=.slice (some ⟨bb,0,none⟩) na na∧v22=.slice (some ⟨db,0,none⟩) na na∧NqS B0 w w' ls na K (some Q) (some mb) (some hb) (some bb) (some db)
theorem NqG.of {B0:Nat}{w W:World} {ls:List (List Int)} {na:Nat} {K:Nat→Prop} {Q:Option Addr} {cq mb hb bb db:Nat} {v11 v15 v18 v21:Value} (h:NqS B0 w W ls na K (some Q) (some mb) (some hb) (some bb) (some db)) :
 NqG B0 w ls na v11 (.slice Q ls.length cq) (.map (some mb)) v15 (.pointer (some ⟨hb,0,none⟩)) v18 (.slice (some ⟨bb,0,none⟩) na na) v21 (.slice (some ⟨db,0,none⟩) na na) W:=⟨K,Q,cq,mb,hb,bb,db,rfl,rfl,rfl,rfl,rfl,h⟩
section
variable {P:Program} {ops:Array Oper} {Q:Exit→Act→World→Prop} {md:Region.Mode} {S:World→Prop} {G:Value→Value→Value→Value→Value→Value→Value→Value→Value→World→Prop} {L listed:Array Bool} {fuel:Nat} {a a':Act} {w:World} {d1 d2 d3 d4 d5 d6 d7 d8 d9:Option Tmp}
theorem Qra (d1 d2 d3 d4 d5 d6 d7 d8 d9:Option Tmp)
 (hA:RowKit.Hid (∀ v1 v2 v3 v4 v5 v6 v7 v8 v9 w',G v1 v2 v3 v4 v5 v6 v7 v8 v9 w'→wpAnyH P md ops Q S 3 L (((((((((a.put d1 v1).put d2 v2).put d3 v3).put d4 v4).put d5 v5).put d6 v6).put d7 v7).put d8 v8).put d9 v9) w')→wpAnyH P md ops Q S fuel listed a w)
 (hB:∀ v1 v2 v3 v4 v5 v6 v7 v8 v9 w',G v1 v2 v3 v4 v5 v6 v7 v8 v9 w'→wpAnyH P md ops Q S 3 L (((((((((a.put d1 v1).put d2 v2).put d3 v3).put d4 v4).put d5 v5).put d6 v6).put d7 v7).put d8 v8).put d9 v9) w'):wpAnyH P md ops Q S fuel listed a w:=hA (Zh hB)
theorem Qkn (hC:RowKit.Hid (∀ v1 v2 v3 v4 v5 v6 v7 v8 v9 w',G v1 v2 v3 v4 v5 v6 v7 v8 v9 w'→wpAnyH P md ops Q S 3 L (((((((((a.put d1 v1).put d2 v2).put d3 v3).put d4 v4).put d5 v5).put d6 v6).put d7 v7).put d8 v8).put d9 v9) w')) (v1 v2 v3 v4 v5 v6 v7 v8 v9:Value) (hf:fuel=3) (hG:G v1 v2 v3 v4 v5 v6 v7 v8 v9 w) (hl:listed=L) (ha:(((((((((a.put d1 v1).put d2 v2).put d3 v3).put d4 v4).put d5 v5).put d6 v6).put d7 v7).put d8 v8).put d9 v9)=a'):wpAnyH P md ops Q S fuel listed a' w:=by
 subst hf;subst hl;subst ha;exact hC.out _ _ _ _ _ _ _ _ _ _ hG
end
set_option maxRecDepth 20000 in
set_option maxHeartbeats 8000000 in
theorem Qiq (w:World)(B0 g o:Nat)(N:Qam) (ls:List (List Int)) (CA:Option Addr) (NC cC:Nat) (cl:List Int) (hB0:B0≤w.heap.size) (hg:Qes (msk w (fun b=>b<B0)) g N) (ho:Qfy (msk w (fun b=>b<B0)) o N.ar ls) (hc:RdI (msk w (fun b=>b<B0)) CA NC cl) (hok:Qap N) (hP:Qaw N.vs.length ls) (hA:Qcy N ls cl) (hcc:NC≤cC∧cC≤9223372036854775807) (hSm:Qbx (Qac N.ar ls)≤1000000000) :
 Calls prog 64 #[.pointer (some ⟨g,0,none⟩),.pointer (some ⟨o,0,none⟩),.slice CA NC cC] w fun e w'=>∃ (E:OD) (G:Nat→Prop) (f:Nat→Nat→Option Value) (bf dl:List Int),e=.returned (.pointer (some ⟨E.qb,0,none⟩))∧(E.g=g∧E.o=o∧E.N=N∧E.ls=ls∧E.cl=cl)∧OdOk E∧OpW w' G (fun b=>B0≤b∧b<w.heap.size) E 0 f bf dl (fun _=>none) 0 0∧OpD E dl bf 0 0∧(∀ b,b<B0→G b)∧(∀ b,G b→b<B0∨w.heap.size≤b)∧Below w.heap.size w w':=by
 obtain ⟨na,hna⟩:∃ na,na=N.ar.length:=⟨_,rfl⟩;have hla:na≤16384:=by rw [hna];exact hok.la
 have hmk:=Qde na (by omega);have hmm:=@run_makeMap prog;have hfl:∀ Q cq V,(Instr.field 132 (.agg #[.slice Q ls.length cq]) 0).run prog V=.ok (.slice Q ls.length cq) V:=fun Q cq V=>by rfl
 have HGA:=Zh (fun V (hV:Below w.heap.size w V)=>(show Calls prog 99 #[.pointer (some ⟨g,0,none⟩)] V fun e w'=>e=.returned (.int .i64 na)∧V=w' by rw [hna];exact Qgb g N V ((hg.le (Qat _ _)).below hV)))
 have HPT:=Zh (fun V (hV:Below w.heap.size w V)=>Qkq o N.ar ls V ((ho.le (Qat _ _)).below hV) (by have:=hP.l6;omega) (fun l hl=>by have:=(hP.lvl l hl).len;have:=hok.lv;omega));have HHN:=Zh (fun V=>Qmn V na hla);have HG:=Zh hg;have HO:=Zh ho;have HC:=Zh hc;have HOK:=Zh (show Qap N∧Qaw N.vs.length ls∧Qcy N ls cl∧(NC≤cC∧cC≤9223372036854775807)∧Qbx (Qac N.ar ls)≤1000000000 from ⟨hok,hP,hA,hcc,hSm⟩)
 have HNA:=Zh hna;have HB0:=Zh hB0;clear hg ho hc hok hP hA hcc hSm hna
 go_enter func64,ntmps64
 go_wp2_with fail
 refine wp_region_held_drew (S:=fun V=>Below w.heap.size w V) (by kernel_rfl) (Zr _ _).drew (fun _=>?_);refine tz 0 7 ?_;refine tz 1 8 ?_;refine tz 2 9 ?_;refine tz 3 10 ?_;refine tz 7 14 ?_;refine tz 10 17 ?_;refine tz 13 20 ?_;have h0:=NqS.start (B0:=B0) w ls na hB0;obtain ⟨W0,q⟩:∃ X,X=w.drew:=⟨_,rfl⟩;rw [←q] at h0 ⊢;clear q;refine Qra (G:=NqG B0 w ls na) (L:=#[true,true,true,true,true,true,true,true,true,true,true,true,true,true,true,true,false,false,false]) (some 11) (some 12) (some 13) (some 15) (some 16) (some 18) (some 19) (some 21) (some 22) (fun hC=>?_) ?_
 · have h:=h0
   clear h0;obtain ⟨W,rfl⟩:∃ X,X=W0:=⟨_,rfl⟩
   repeat' (first
    | ((with_reducible refine Qkn hC (.agg #[.slice Q ls.length cq]) (.slice Q ls.length cq) (.map (some mb)) (.int .i64 na) (.pointer (some ⟨gh,0,none⟩)) (.int .i64 na) (.slice (some ⟨bb,0,none⟩) na na) (.int .i64 na) (.slice (some ⟨db,0,none⟩) na na) ?_ ?_ ?_ ?_);(focus decide +kernel);(focus exact NqG.of h);(focus decide +kernel);(focus (simp only [Act.put,Yi,Yj,Yk];done)))
    | ((with_reducible refine Qkn hC (.agg #[.slice Q ls.length cq]) (.slice Q ls.length cq) (.map (some mb)) (.int .i64 na) (.pointer (some ⟨gh,0,none⟩)) (.int .i64 na) (.slice (some ⟨db,0,none⟩) na na) (.int .i64 na) (.slice (some ⟨bb,0,none⟩) na na) ?_ ?_ ?_ ?_);(focus decide +kernel);(focus exact NqG.of h.swap);(focus decide +kernel);(focus (simp only [Act.put,Yi,Yj,Yk];done)))
    | exact AllReadyH.nil
    | refine AllReadyH.cons (o:=_) rfl (fun K hK=>?_) ?_
    | refine wpAnyH_ready (rs:=[4,6]) (by decide +kernel) (by simp) ?_
    | refine wpAnyH_ready (rs:=[6,8]) (by decide +kernel) (by simp) ?_
    | refine wpAnyH_ready (rs:=[6,9]) (by decide +kernel) (by simp) ?_
    | refine wpAnyH_ready (rs:=[6,11]) (by decide +kernel) (by simp) ?_
    | refine wpAnyH_ready (rs:=[6,12,14]) (by decide +kernel) (by simp) ?_
    | refine wpAnyH_ready (rs:=[6,14]) (by decide +kernel) (by simp) ?_
    | refine wpAnyH_ready (rs:=[6,12,15]) (by decide +kernel) (by simp) ?_
    | refine wpAnyH_ready (rs:=[6,15]) (by decide +kernel) (by simp) ?_
    | refine wpAnyH_ready (rs:=[6,12]) (by decide +kernel) (by simp) ?_
    | refine wpAnyH_ready (rs:=[12,14]) (by decide +kernel) (by simp) ?_
    | refine wpAnyH_ready (rs:=[12,15]) (by decide +kernel) (by simp) ?_
    | refine wpAnyH_ready (rs:=[4]) (by decide +kernel) (by simp) ?_
    | refine wpAnyH_ready (rs:=[6]) (by decide +kernel) (by simp) ?_
    | refine wpAnyH_ready (rs:=[8]) (by decide +kernel) (by simp) ?_
    | refine wpAnyH_ready (rs:=[9]) (by decide +kernel) (by simp) ?_
    | refine wpAnyH_ready (rs:=[11]) (by decide +kernel) (by simp) ?_
    | refine wpAnyH_ready (rs:=[12]) (by decide +kernel) (by simp) ?_
    | refine wpAnyH_ready (rs:=[14]) (by decide +kernel) (by simp) ?_
    | refine wpAnyH_ready (rs:=[15]) (by decide +kernel) (by simp) ?_
    | (go_simp;first
     | (refine hK.out _ _ (h.map).bel (fun _=>?_);have h':=h.map;obtain ⟨mb,q2⟩:∃ g,g=W.heap.size:=⟨_,rfl⟩;obtain ⟨W,q⟩:∃ X,X=W.alloc (.map #[] 0):=⟨_,rfl⟩;rw [←q] at h' ⊢;(try rw [←q2] at h' ⊢);clear hK K q q2 h;have h:=h';clear h')
     | (refine hK.out _ _ (h.bb).bel (fun _=>?_);have h':=h.bb;obtain ⟨bb,q2⟩:∃ g,g=W.heap.size:=⟨_,rfl⟩;obtain ⟨W,q⟩:∃ X,X=W.alloc (.cells (Qbp (.int .i64 0) na) 3):=⟨_,rfl⟩;rw [←q] at h' ⊢;(try rw [←q2] at h' ⊢);clear hK K q q2 h;have h:=h';clear h')
     | (refine hK.out _ _ (h.db).bel (fun _=>?_);have h':=h.db;obtain ⟨db,q2⟩:∃ g,g=W.heap.size:=⟨_,rfl⟩;obtain ⟨W,q⟩:∃ X,X=W.alloc (.cells (Qbp (.int .i64 0) na) 3):=⟨_,rfl⟩;rw [←q] at h' ⊢;(try rw [←q2] at h' ⊢);clear hK K q q2 h;have h:=h';clear h')
     | ((with_reducible refine (HGA.out _ h.bel).mono ?_);rintro r W ⟨rfl,rfl⟩;go_simp;refine hK.out _ _ h.bel (fun _=>?_);clear hK K)
     | ((with_reducible refine (HHN.out _).mono ?_);rintro r W ⟨gh,rfl,hh,hb⟩;have h':=h.heap hh hb;go_simp;refine hK.out _ _ h'.bel (fun _=>?_);clear hK K hh hb h;have h:=h';clear h')
     | ((with_reducible refine (HPT.out _ h.bel).mono ?_);rintro r W ⟨Q,cq,rfl,hQ,hb⟩;have h':=h.part hQ hb;go_simp;refine hK.out _ _ h'.bel (fun _=>?_);clear hK K hQ hb h;have h:=h';clear h';refine tk 5 12 (h:=⟨_,tv,?_⟩);simp only [pE,List.set])
     | fail))
 · rintro v11 v12 v13 v15 v16 v18 v19 v21 v22 W ⟨K,Q,cq,mb,hb,bb,db,rfl,rfl,rfl,rfl,rfl,hS⟩
   simp only [Act.put,Yi,Yj,Yk];have HS:=Zh hS;have hbl:=hS.bel;clear hS h0;refine tz 16 23 ?_;refine Zk 17 (fun K hK=>?_);go_simp;refine hK.out _ _ (hbl.alloc hbl.size _) (fun _=>?_);clear hK K;refine tz 18 6 ?_;refine Zd ?_;obtain ⟨W2,hW2⟩:∃ X,X=W.alloc (.cells #[.pointer (some ⟨g,0,none⟩),.pointer (some ⟨o,0,none⟩),.slice CA NC cC,.slice Q ls.length cq,.map (some mb),.pointer (some ⟨hb,0,none⟩),.slice (some ⟨bb,0,none⟩) na na,.slice (some ⟨db,0,none⟩) na na,.int .i64 0,.int .i64 0] 162):=⟨_,rfl⟩;rw [←hW2];obtain ⟨qb,hqb⟩:∃ q,q=W.heap.size:=⟨_,rfl⟩;rw [←hqb];have HB2:=Zh (show Below W.heap.size W W2 by rw [hW2];exact (Zr _ _).alloc (Zn _) _)
   have HQB:=Zh (show Blk W2 qb 162 #[.pointer (some ⟨g,0,none⟩),.pointer (some ⟨o,0,none⟩),.slice CA NC cC,.slice Q ls.length cq,.map (some mb),.pointer (some ⟨hb,0,none⟩),.slice (some ⟨bb,0,none⟩) na na,.slice (some ⟨db,0,none⟩) na na,.int .i64 0,.int .i64 0] by rw [hW2];exact Blk.new' _ _ _ hqb)
   have HQS:=Zh (show qb=W.heap.size∧W2.heap.size=qb+1 by rw [hW2,World.size_alloc,hqb];exact ⟨rfl,rfl⟩)
   clear hW2 hqb hbl
   go_wp2_with fail
   go_ret
   obtain ⟨hm1,hm2,hm3,hm4⟩:=HS.out.m mb rfl;obtain ⟨hd1,hd2,hd3⟩:=HS.out.b bb rfl;obtain ⟨he1,he2⟩:=HS.out.d db rfl;have hh:=HS.out.h hb rfl;have hk1:=HS.out.k1;have hkl:=HS.out.kl;have hs2:=HQS.out;have hm9:=hm1.lt;have hd9:=hd1.lt;have he9:=he1.lt;have hsb:=HS.out.bel.size
   have hle:Le (msk w (fun b=>b<B0)) (msk W2 K):=fun a v hc=>by
    obtain ⟨h1,h2⟩:=Qba.1 hc;have hw:=Qaj h2;exact Qba.2 ⟨HS.out.k0 _ h1,Zc (Zb HS.out.bel HB2.out) (Zn _) h2⟩
   have hleK:Le (msk W K) (msk W2 K):=Qbc.msk (Qbc.below HB2.out);refine ⟨⟨g,o,N,ls,CA,NC,cC,cl,Q,ls.length,cq,qb,mb,hb,bb,db,na⟩,K,fun _ _=>none,List.replicate na 0,List.replicate na 0,rfl,⟨rfl,rfl,rfl,rfl,rfl⟩,⟨HOK.out.1,HOK.out.2.1,HOK.out.2.2.1,HOK.out.2.2.2.1,HOK.out.2.2.2.2,HNA.out⟩,⟨HG.out.le hle,HO.out.le hle,(HS.out.p Q rfl).le hleK,HC.out.le hle,HQB.out,hm1.below HB2.out,fun i k u hu=>(by cases hu),hd1.below HB2.out hd9,he1.below HB2.out he9,hh.more HB2.out (fun b hb'=>?_),fun b hb'=>?_,fun b hb'=>?_,⟨fun e=>hm3 (by have e:mb=bb:=e;rw [e]),fun e=>hm4 (by have e:mb=db:=e;rw [e]),by show mb≠qb;omega,fun e=>hd3 (by have e:bb=db:=e;rw [e]),by show bb≠qb;omega,by show db≠qb;omega⟩⟩,⟨by simp,by simp,fun x hx=>?_,by simp⟩,HS.out.k0,hk1,Zb HS.out.bel HB2.out⟩
   · rcases hb' with (h1|h1)|h1|h1|h1|h1
     · have:=(hkl b h1).1;exact ⟨by omega,.inl (.inl (.inl h1))⟩
     · exact ⟨by omega,.inl (.inl (.inr h1.2))⟩
     · have h1:b=mb:=h1;subst h1;exact ⟨by omega,.inl (.inr (.inl rfl))⟩
     · have h1:b=bb:=h1;subst h1;exact ⟨by omega,.inl (.inr (.inr (.inl rfl)))⟩
     · have h1:b=db:=h1;subst h1;exact ⟨by omega,.inl (.inr (.inr (.inr rfl)))⟩
     · have h1:b=qb:=h1;exact ⟨by omega,.inr (by omega)⟩
   · rcases hb' with h1|h1
     · have:=(hkl b h1).1;omega
     · omega
   · rcases hb' with h1|h1
     · have h2:=hkl b h1
       exact ⟨fun e=>h2.2.1 (by rw [show b=mb from e]),fun e=>h2.2.2.1 (by rw [show b=bb from e]),fun e=>h2.2.2.2 (by rw [show b=db from e]),fun e=>by have e:b=qb:=e;omega⟩
     · exact ⟨fun e=>by have e:b=mb:=e;omega,fun e=>by have e:b=bb:=e;omega,fun e=>by have e:b=db:=e;omega,fun e=>by have e:b=qb:=e;omega⟩
   · rw [List.mem_replicate] at hx;omega
end Go.Proofs.YtdheeddnkdhfeaaGreatDoor
