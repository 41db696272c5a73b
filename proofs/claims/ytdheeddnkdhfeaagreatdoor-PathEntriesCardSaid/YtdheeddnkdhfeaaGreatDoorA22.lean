/- Parts of the proof: Yk, Yl, AsF, Yp. -/
import Derived.Test.YtdheeddnkdhfeaaGreatDoorA21
namespace Go.Proofs.YtdheeddnkdhfeaaGreatDoor
open Go.RowKit Go.Proofs.Tryz
attribute [local go_sem ↓] Go.wp_at_zero Go.wp_at_succ
def doneI (db:Nat)(R:Int)(W:World):Nat:=match W.heap[db]? with|some (.cells cs _ _)=>cs.toList.countP (fun v=>match v with|.int .i64 x=>x == R|_=>false)|_=>0
theorem Qsn {db:Nat}{R:Int}{W:World}{t:TypeId}{dl:List Int} (h:Blk W db t (Qcj dl)):doneI db R W=dl.countP (fun x=>x == R):=by
 unfold doneI;rw [show W.heap[db]?=some (.cells (Qcj dl) t (0,0)) from h]
 simp only [Qcj,List.toList_toArray,List.countP_map]
 congr 1
theorem Qly:∀ {l:List Int}{p:Nat}{R:Int},p<l.length→l.getD p 0≠R→(l.set p R).countP (fun x=>x == R)=l.countP (fun x=>x == R)+1
 | [],p,R,h,_=>by simp at h
 | b::l,0,R,_,h=>by
  have:¬b=R:=by simpa using h
  simp [this]
 | b::l,p+1,R,h,h2=>by
  have:=Qly (l:=l) (p:=p) (R:=R) (by simpa using h) (by simpa using h2);rw [Yk,List.countP_cons,List.countP_cons,this];omega
def StpR (E:OD)(w:World)(G X:Nat→Prop)(j:Nat)(l:List Int)(c s to:Nat)(v R Lp:Int)(e:Ending)(w':World):Prop :=
 ∃ (A:Option Addr) (k cc:Nat) (bs:List Nat) (cs:List Int) (G':Nat→Prop) (n':Nat) (f':Nat→Nat→Option Value) (bf' dl':List Int) (hp':Nat→Option Int),e=.returned (.tuple #[.slice A k cc,.bool true])∧Way (StQ E.N l c to (Qll E.N E.ls j)) s to v bs cs∧OpW w' G' (fun b=>X b∨Qab A=some b) E n' f' bf' dl' hp' (R+1) Lp∧OpD E dl' bf' (R+1) n' ∧
  (∀ b,G b→G' b)∧(∀ b,G' b→G b∨w.heap.size≤b)∧Aft (fun b=>G b∨X b) w w'∧RdI (msk w' (fun b=>Qab A=some b)) A k (nis bs)∧(∀ b,Qab A=some b→w.heap.size≤b)∧k≤16384∧k≤cc∧cc≤9223372036854775807
theorem RdI.ownM {w:World}{A:Option Addr}{n:Nat}{L:List Int}(h:RdI w A n L):RdI (msk w (fun b=>Qab A=some b)) A n L :=
 ⟨h.1,fun i x hx=>by
  obtain ⟨b,o,rfl,hc⟩:=h.2 i x hx;exact ⟨b,o,rfl,Qer hc rfl⟩⟩
section
variable {E:OD} {w:World} {G X:Nat→Prop} {n:Nat} {f:Nat→Nat→Option Value} {bf dl:List Int} {hp:Nat→Option Int} {R Lp:Int} {j s to a c:Nat} {l:List Int} {v e:Int}
theorem oNext_ok (hE:OdOk E)(h:OpW w G X E n f bf dl hp R Lp)(hn:n≤900000000000000000) (hl:E.ls[j]?=some l) (hh:Qhc E.N l c s to v) (hr:Rch (StQ E.N l c to (Qll E.N E.ls j)) s a e) (ha:a≠to) :
 Calls prog 165 #[.pointer (some ⟨E.qb,0,none⟩),.int .i64 j,.int .i64 a] w (NxoR w G E.mb n E.N E.ls (StQ E.N l c to (Qll E.N E.ls j)) (OpS E.N l c to) a):=by
 have hlt:∃ y,E.N.ar[a]?=some y:=by
  cases hr with
  | start =>
   obtain ⟨y,hy,_⟩:=hh.sy;exact ⟨y,hy⟩
  | step _ h2=>exact ⟨_,Zg ((Qyi hE.ok hE.hP hE.hA hl hh).st _ _ _ h2).2.2⟩
 have hGm:¬G E.mb:=fun hg=>(h.nG _ (.inl hg)).1 rfl
 have hHm:¬(fun b=>G b∨b=E.qb) E.mb:=fun hg=>hg.elim hGm h.ne.2.2.1
 cases j with
 | zero =>
  obtain ⟨y,hy⟩:=hlt;refine (Qyj w E.qb E.g E.o E.N E.ls E.CA E.NC E.cC E.cl E.Q E.L E.cq E.mb a y (h.rd.le (Qat _ _)) hE.ok hy).mono ?_;rintro e w' ⟨O,C,nO,cO,cC',rfl,h1,h2,h3,hb⟩;have hx:Nxw E.mb w w':=Nxw.below hb h.mq.lt;have hle:Le (msk w' (fun b=>w.heap.size≤b∧b<w'.heap.size)) (msk w' (G2 G w w')):=Qbk (fun _ hb=>.inr hb);exact ⟨O,C,nO,cO,cC',n,_,_,f,rfl,nxO_flat hE.ok hy ha,h1.le hle,h2.le hle,h.mq.below hb,by omega,h.mc.le (G2.le hx hGm),hx,h3⟩
 | succ k =>
  obtain ⟨lb,hb⟩:∃ lb,E.ls[k]?=some lb:=⟨_,Zg (by have:=(Zs hl).1;omega)⟩;obtain ⟨y,hy,hcr⟩:=reach_in hE.ok hE.hP hE.hA hb hl hh hr ha;rw [Qll.succ hb];exact Qwv w E.qb E.g E.o E.N E.ls E.CA E.NC E.cC E.cl E.Q E.L E.cq E.mb a (k+1) k to c lb l y G _ n f h.rd hHm hGm h.costs h.mq hn h.mc hE.ok hE.hP hE.hA hE.cc hE.sm hy hb hcr ha rfl
set_option maxRecDepth 20000 in
set_option maxHeartbeats 4000000 in
theorem Qnt (hE:OdOk E)(h:OpW w G X E n f bf dl hp R Lp)(J:Nat)(hj:J=j+1) (hl:E.ls[j]?=some l) (hh:Qhc E.N l c s to v) (hD:OpD E dl bf R n) (hR:0≤R∧R≤10000000000000) :
 Calls prog 119 #[.pointer (some ⟨E.qb,0,none⟩),.int .i64 J,.int .i64 s,.int .i64 to] w (StpR E w G X j l c s to v R Lp):=by
 have HE:=Zh hE;have HLL:=Zh hl;have HLP:=Zh hh;have hSt:=Qyi hE.ok hE.hP hE.hA hl hh;rw [←hE.na] at hSt;have HSTK:=Zh hSt;have hna4:E.na≤16384:=by rw [hE.na];exact hE.ok.la
 obtain ⟨y,hy,_,hyc⟩:=hh.sy;obtain ⟨_,u,_,e2,_,hu⟩:=Qdi hE.ok hy;have hlen:=Qhf hE.hP hl;have hlv:=hE.ok.lv;have hL:=h.part.1;have hl6:=hE.hP.l6;have hor:=h.rd.le (Qat _ _);have HTO:=Zh (Qeu E.g s E.N y w hor.gr hy);rw [e2] at HTO;have HCO:=Zh (Qho w E.qb E.g E.o E.N E.ls E.CA E.NC E.cC E.cl E.Q E.L E.cq E.mb J j u l hor hj hl (by omega) (by omega));rw [show Qaa l (u:Int)=(c:Int) by rw [←e2];exact hyc] at HCO
 have HWN:=Zh (fun (V:World) (b:Nat) (yb:Tri) (hV:OR V E.qb E.g E.o E.N E.ls E.CA E.NC E.cC E.cl E.Q E.L E.cq E.mb) (hb:E.N.ar[b]?=some yb)=>Qqe V E.qb E.g E.o E.N E.ls E.CA E.NC E.cC E.cl E.Q E.L E.cq E.mb J j b (c:Int) l yb hV hE.ok hj hl hlen (by omega) hb);have HCL:=Zh (Qma w hp h.hh);have HW0:=Zh h;have HD:=Zh hD;have q0:=h.c0;have q5:=h.c5;have hJ1:(J:Int)-1=(j:Int):=by omega
 have hJ0:(j:Int)≤1000:=by have:=(Zs hl).1;omega
 have e1:IntKind.i64.wrap (R+1)=R+1:=IntWalk.i64_in _ (by omega);have e3:IntKind.i64.wrap (j:Int)=(j:Int):=IntWalk.i64_in _ (by omega);have hsn:s<E.na:=hSt.sn
 clear h hE hl hh hD hSt hy hyc e2 hu hlen hlv hL hl6 hor hj
 go_enter func119,ntmps119
 go_wp2_with fail
 with_reducible refine HTO.out.mono ?_
 rintro r w' ⟨rfl,rfl⟩
 go_wp2_with fail
 with_reducible refine HCO.out.mono ?_
 rintro r w' ⟨rfl,rfl⟩
 go_wp2_with fail
 with_reducible refine HCL.out.mono ?_
 rintro r w1 ⟨rfl,hh1,ha1⟩;have HW1:=Zh (HW0.out.heap hh1 ha1);have HA1:=Zh (ha1.less (G:=fun b=>G b∨X b) (fun b hb=>.inl hb));have q8:=HW1.out.c8;have f8:=HW1.out.blk.frozen 8;have q5:=HW1.out.c5;have HW2:=Zh (HW1.out.rnd (R+1));have HA2:=Zh (HA1.out.set (fun hg=>(HW1.out.nG E.qb hg).2.2.2 rfl) (i:=8) (.int .i64 (R+1)));have q5b:=HW2.out.c5;have HPU:=Zh (Qfn _ _ HW2.out.hh s hsn 0 (by omega) (by omega));clear hh1 ha1 q0 HTO HCO HCL
 go_wp2_with fail
 with_reducible refine HPU.out.mono ?_
 rintro r w3 ⟨rfl,hh3,ha3⟩;have HW3:=Zh (HW2.out.heap hh3 ha3);have HA3:=Zh (HA2.out.trans (ha3.less (G:=fun b=>G b∨X b) (fun b hb=>.inl hb)))
 have HI3:=Zh (OpI.init (R:=R+1) HSTK.out HD.out.ld HD.out.lb (fun q hq e=>by
  have:=HD.out.le _ (Zm (Qbn 0 (show q<dl.length by rw [HD.out.ld];exact hq)))
  omega))
 clear hh3 ha3 HPU q8 f8 q5 q5b HW1 HA1 HW2 HA2
 go_wp2_with fail
 go_loopw [] (fun W=>∃ (G':Nat→Prop) (n':Nat) (f':Nat→Nat→Option Value) (bf' dl':List Int) (dnf hp':Nat→Option Int),OpW W G' X E n' f' bf' dl' hp' (R+1) Lp∧OpI (StQ E.N l c to (Qll E.N E.ls j)) s to E.na dnf hp' dl' (R+1) bf'∧(∀ b,G b→G' b)∧(∀ b,G' b→G b∨w.heap.size≤b)∧Aft (fun b=>G b∨X b) w W∧(∀ x∈dl',x≤R+1)∧(n':Int)≤16384*R+(dl'.countP (fun x=>x == R+1):Nat)) (fun W=>E.na-doneI E.db (R+1) W)
 case atStart =>
  refine ⟨G,n,f,bf,dl,_,_,HW3.out,HI3.out,fun _ h=>h,fun _ h=>.inl h,HA3.out,fun x hx=>?_,?_⟩
  · have:=HD.out.le x hx;omega
  · have:=HD.out.n;omega
 case round =>
  clear HW3 HI3 HA3;obtain ⟨G1,n1,f1,bf1,dl1,dnf,hp1,hw,hi,hG,hG2,ha,hle1,hn1⟩:=hrel;have HWr:=Zh hw;have HIr:=Zh hi;have HG1:=Zh hG;have HG2:=Zh hG2;have HAr:=Zh ha;have HLE:=Zh hle1;have HN1:=Zh hn1;have HPO:=Zh (Qmj wr hp1 hw.hh);have q5:=hw.c5;clear hw hi hG hG2 ha hle1 hn1
  go_wp2_with fail
  with_reducible refine HPO.out.mono ?_
  rintro e w7 ⟨h7,ha7⟩;have HA7:=Zh (HAr.out.trans (ha7.less (G:=fun b=>G b∨X b) (fun b hb=>.inl (hb.imp (HG1.out b) id))));have HA7p:=Zh ha7;clear ha7
  rcases h7 with ⟨hno,rfl,hh⟩|⟨k,z,hkn,hkz,hmin,rfl,hh⟩
  · exfalso
    obtain ⟨q,x,hq,_⟩:=HIr.out.waits HSTK.out;rw [hno q] at hq
    cases hq
  have HW7:=Zh (HWr.out.heap hh HA7p.out);have HMI:=Zh hmin;have HKZ:=Zh hkz;clear hh hmin hkz q5 HPO HA7p
  by_cases hkt:k=to
  · subst hkt
    obtain ⟨bs,cs,hvi⟩:=HIr.out.hit HSTK.out HKZ.out HMI.out;have hway:=hvi.way
    have hbl:bs.length≤16384:=by
     have:=hway.len (fun a b d h=>by have:=(HSTK.out.st a b d h).2.2;rw [HE.out.na] at this;exact this);have:=HE.out.ok.la;omega
    have HBK:=Zh (oBack_ok HW7.out (StQ E.N l c k (Qll E.N E.ls j)) s k v dnf bs cs hvi hbl HIr.out.lb);have HWY:=Zh hway;have HBL:=Zh hbl;clear hvi hway hbl
    go_wp2_with fail
    with_reducible refine HBK.out.mono ?_
    rintro e w8 ⟨A,k8,c8,rfl,hO,hb8⟩;have HO:=Zh hO;have HB8:=Zh hb8;clear hO hb8
    go_wp2_with fail
    refine bodyPost_ret (v:=.tuple #[.slice A k8 c8,.bool true]) (by simp [results,results119,go_sem]) rfl ?_;have hrd:=HO.out.rds.rdI;have hlt:=HO.out.lt;have hsz:=HA7.out.size;refine ⟨A,k8,c8,bs,cs,G1,n1,f1,bf1,dl1,_,rfl,HWY.out,HW7.out.holds HB8.out (fun b hb=>hb.elim .inl (fun h=>.inr (hlt b h))),⟨HIr.out.ld,HIr.out.lb,HLE.out,?_⟩,HG1.out,HG2.out,HA7.out.trans (Aft.below HB8.out (fun b hb=>HW7.out.gl b (hb.imp (HG1.out b) id))),hrd.ownM,fun b hb=>Yx hsz (hlt b hb).1,?_,HO.out.cap,HO.out.capMax⟩
    · have h1:=HN1.out
      have h2:dl1.countP (fun x=>x == R+1)≤dl1.length:=List.countP_le_length;rw [HIr.out.ld] at h2;omega
    · have:=hrd.1
      rw [Qck] at this;have:=HBL.out;omega
  have HKT:=Zh hkt;have hne:¬(k:Int)=(to:Int):=by omega
  obtain ⟨hfr1,hkn2,hfr3⟩:=HIr.out.free HKZ.out;have hkl:k<dl1.length:=by rw [HIr.out.ld];exact hkn
  have q7:=HW7.out.c7;have q8:=HW7.out.c8;have dk:=HW7.out.ddB.cellI (Zg hkl);have df:=HW7.out.ddB.frozen k;have hkn':(k:Int)<(E.na:Int):=by omega
  have hk0:(0:Int)≤(k:Int):=by omega
  obtain ⟨dl2,hdl2⟩:∃ d,d=dl1.set k (R+1):=⟨_,rfl⟩;have HW8:=Zh (show OpW ((w7.setCell ⟨E.db,k,none⟩ (.int .i64 (R+1))).drew) G1 X E n1 f1 bf1 dl2 _ (R+1) Lp by rw [hdl2];exact (HW7.out.done k (R+1)).below (Zr _ _).drew)
  have HA8:=Zh ((HA7.out.set (i:=k) (fun hg=>(HW7.out.nG E.db (hg.imp (HG1.out _) id)).2.2.1 rfl) (.int .i64 (R+1))).drew);have HDC:=Zh (show dl2.countP (fun x=>x == R+1)=dl1.countP (fun x=>x == R+1)+1 by rw [hdl2];exact Qly hkl hfr3)
  have HDL:=Zh (show ∀ x∈dl2,x≤R+1 from fun x hx=>by
   rw [hdl2] at hx
   rcases List.mem_or_eq_of_mem_set hx with h1|h1
   · exact HLE.out x h1
   · omega)
  have HTK:=Zh (fun os cs=>show OpJ (StQ E.N l c to (Qll E.N E.ls j)) (OpS E.N l c to) s to E.na k z os cs 0 (fun q=>if q=k then some z else dnf q) (fun q=>if q=k then none else hp1 q) dl2 (R+1) bf1 by rw [hdl2];exact HIr.out.take (OS:=OpS E.N l c to) (os:=os) (cs:=cs) HSTK.out HKZ.out HMI.out HKT.out)
  have hcl:dl2.countP (fun x=>x == R+1)≤dl2.length:=List.countP_le_length;rw [(HTK.out [] []).ld] at hcl;have hn2:=HN1.out;have hdc:=HDC.out;have HNO:=Zh (oNext_ok HE.out HW8.out (by omega) HLL.out HLP.out (HIr.out.dij.hr k z HKZ.out) HKT.out);have HCL2:=Zh hcl;clear hkt hfr1 hkn2 hfr3 hdl2 hcl hn2 hdc
  go_wp2_with fail
  refine Qbl 10 (S:=fun V=>V=w7.drew) (by kernel_rfl) rfl (fun _=>?_);refine tkF 0 70 (h:=⟨_,tv,?_⟩);simp only [pE,List.set];refine tkF 1 71 (h:=⟨_,tv,?_⟩);simp only [pE,List.set];refine tkF 2 72 (h:=⟨_,tv,?_⟩);simp only [pE,List.set];refine tkK 3 73 (h:=⟨_,tv,?_⟩);simp only [pE,List.set];refine tkF 4 74 (h:=⟨_,tv,?_⟩);simp only [pE,List.set];refine tkF 5 75 (h:=⟨_,tv,?_⟩);simp only [pE,List.set];refine tkF 6 76 (h:=⟨_,tv,?_⟩);simp only [pE,List.set];refine tkF 7 77 (h:=⟨_,tv,?_⟩);simp only [pE,List.set];refine tkK 8 78 (h:=⟨_,tv,?_⟩);simp only [pE,List.set];refine tkF 9 79 (h:=⟨_,tv,?_⟩);simp only [pE,List.set];refine Qby (k:=10) (by kernel_rfl) rfl (fun K hK=>?_);go_simp;refine hK.out _ _ ?_;clear hK K;refine Qbt (by kernel_rfl) ?_ _;clear q7 q8 dk df
  go_wp2_with fail
  with_reducible refine HNO.out.mono ?_
  rintro e w10 ⟨O,C,nO,cO,cC',n',os,cs,f',rfl,hnp,hO,hC,hmq,hn',hmc,hx,hnO⟩;have HW10:=Zh (HW8.out.nxt hx hmq hmc);have HA10:=Zh (HA8.out.trans (show Aft (fun b=>G b∨X b) _ _ from ⟨fun b hb hl=>hx.kept b (fun e=>(HW8.out.nG b (hb.imp (HG1.out b) id)).1 e) hl,hx.size,fun B hB=>hx.bel B (Nat.le_of_not_lt fun hlt=>(HW8.out.nG E.mb ((hB _ hlt).imp (HG1.out _) id)).1 rfl)⟩))
  have HJ10:=Zh (HTK.out os cs);obtain ⟨GG,hGG⟩:∃ GG,GG=G2 G1 ((w7.setCell ⟨E.db,k,none⟩ (.int .i64 (R+1))).drew) w10:=⟨_,rfl⟩;rw [←hGG] at HW10 hO hC;have HGG:=Zh (show ∀ b,G b→GG b from fun b hb=>by rw [hGG];exact .inl (HG1.out b hb))
  have HGH:=Zh (show ∀ b,GG b→G b∨w.heap.size≤b from fun b hb=>by
   rw [hGG] at hb
   rcases hb with h1|h1
   · exact HG2.out b h1
   · have:=HA8.out.size;exact .inr (by omega))
  have HNN:=Zh (show (n':Int)≤16384*R+(dl2.countP (fun x=>x == R+1):Nat) by have:=HN1.out;have:=HDC.out;omega)
  have HO:=Zh hO;have HC:=Zh hC;have HNP:=Zh hnp;clear hGG hO hC hnp hmq hn' hmc hx HNO HTK HW8 HA8
  go_wp2_with fail
  obtain ⟨wi,hwi⟩:∃ wi,wi=w10:=⟨_,rfl⟩;subst hwi
  go_loopw [90] (fun ui V=>∃ (i:Nat) (hp2:Nat→Option Int) (bf2:List Int),i≤nO∧ui=.int .i64 i∧OpW V GG X E n' f' bf2 dl2 hp2 (R+1) Lp∧OpJ (StQ E.N l c to (Qll E.N E.ls j)) (OpS E.N l c to) s to E.na k z os cs i (fun q=>if q=k then some z else dnf q) hp2 dl2 (R+1) bf2∧Le (msk wi GG) (msk V GG)∧Aft (fun b=>G b∨X b) w V) (fun ui _=>nO-(intOf ui).toNat)
  case atStart=>exact ⟨0,_,_,Nat.zero_le _,rfl,HW10.out,HJ10.out,fun _ _ h=>h,HA10.out⟩
  case round =>
   clear HW10 HJ10 HA10;obtain ⟨i,hp2,bf2,hin,rfl,hw,hj2,hle,hb⟩:=hrel;have HWi:=Zh hw;have HJi:=Zh hj2;have HLi:=Zh hle;have HAi:=Zh hb;clear hw hj2 hle hb
   by_cases hlt:i<nO
   rotate_left
   · obtain rfl:i=nO:=by omega
     have j2:¬((i:Int)<(i:Int)):=by omega
     have HIN:=Zh (HJi.out.all HNP.out (by rw [HO.out.1];exact Zn _))
     go_wp2_with fail
     go_roundw
     case rel=>exact ⟨GG,n',f',bf2,dl2,_,hp2,HWi.out,HIN.out,HGG.out,HGH.out,HAi.out,HDL.out,HNN.out⟩
     case measure =>
      rw [Qsn HWi.out.ddB,Qsn HWr.out.ddB,HDC.out];have h1:=HCL2.out;rw [HDC.out] at h1;omega
   obtain ⟨ob,oo,zb,rfl,hzb,cO1⟩:=((HO.out.le HLi.out).le (Qat _ _)).at_ hlt;obtain ⟨pb,po,p,rfl,hv,cC1⟩:=((HC.out.le HLi.out).le (Qat _ _)).at_ hlt;obtain ⟨b,yb,rfl,hyb,hp0,hp9,hst⟩:=HNP.out.to_ i zb p hzb hv;have hyw:=Qdq (HE.out.ok.arcs yb (Zm hyb)).w;have hbn:b<E.na:=by rw [HE.out.na];exact (Zs hyb).1
   have hz0:=HJi.out.c0;have j0:(0:Int)≤(i:Int):=by omega
   have j1:(i:Int)<(nO:Int):=by omega
   have HAD:=Zh (fun V=>Qef V z p ⟨hz0.1,by omega⟩ ⟨hp0,hp9⟩);obtain ⟨far1,hf1⟩:∃ far,far=Qex z p:=⟨_,rfl⟩;rw [←hf1] at HAD;have hf1b:=Qyl hz0.1 hp0;rw [←hf1] at hf1b;have HF1:=Zh hf1;have HYB:=Zh hyb;have HZB:=Zh hzb;have HV:=Zh hv;have HST:=Zh hst;clear hzb hv hyb hst hf1
   go_wp2_with fail
   with_reducible refine (HAD.out _).mono ?_
   rintro e w' ⟨rfl,rfl⟩
   by_cases hbt:b=to
   · subst hbt
     have hbt2:(b:Int)=(b:Int):=rfl;obtain ⟨far,hfar⟩:∃ far,far=far1:=⟨_,rfl⟩;rw [←hfar]
     by_cases hpi:p=1152921504606846976
     · have hff:¬far<1152921504606846976:=by rw [hfar,HF1.out,hpi];unfold Qex;split <;> omega
       have HJX:=Zh (HJi.out.skip HZB.out HV.out (Qwq HYB.out (.inl hpi)));clear hpi hfar hf1b;have hff2:decide (far<1152921504606846976)=false:=by simp;omega
       have q7:=HWi.out.c7;have q8:=HWi.out.c8;clear cO1 cC1
       go_wp2_with fail
       refine wp_region_held_drew (S:=fun V=>V=wr.drew) (by kernel_rfl) rfl (fun _=>?_);refine tz 0 118 ?_;refine tz 1 119 ?_;refine tz 2 120 ?_;refine tw 3 121 ?_;refine tw 4 122 ?_;refine tw 5 123 ?_;refine tw 6 124 ?_;refine tw 7 125 ?_;refine tw 8 126 ?_;refine tw 9 127 ?_;refine tw 10 128 ?_;refine tw 11 129 ?_;refine tw 12 130 ?_;refine tw 13 131 ?_;refine tw 14 132 ?_;refine tz 15 133 ?_;refine tz 16 134 ?_;refine tw 17 135 ?_;refine tw 18 136 ?_;refine tw 19 137 ?_;refine tw 20 138 ?_;refine tw 21 139 ?_;refine tw 22 140 ?_;refine tw 23 141 ?_;refine tz 24 142 ?_;refine Zd ?_;have HWX:=Zh (HWi.out.below (Zr _ _).drew);have HLX:=Zh (HLi.out.trans (Qbc.msk (G:=GG) (Qbc.below (Zr wr.heap.size wr).drew)));have HAX:=Zh (HAi.out.drew)
       exact Kby
     · have HO0:=Zh (opS_to (l:=l) (c:=c) (to:=b) HYB.out hpi rfl)
       obtain ⟨d0,hd0⟩:∃ d,d=p:=⟨_,rfl⟩;rw [←hd0] at HO0;have HS:=Zh (HST.out d0 (by rw [←hd0];exact HO0.out));have hsb0:=HSTK.out.st k b d0 HS.out;have hfe:far=z+d0:=by rw [hfar,HF1.out,hd0];unfold Qex;rw [if_neg (by omega)]
       have HFE:=Zh hfe;have HO0:=Zh (show OpS E.N l c b b p d0 by rw [←hd0];exact HO0.out)
       clear hpi hfar hf1b hd0 hsb0 hfe;have q7:=HWi.out.c7;have q8:=HWi.out.c8;have q5:=HWi.out.c5;have hfe:=HFE.out;have hsb:=HSTK.out.st k b d0 HS.out;have hc0:=HJi.out.c0;have hbl:b<dl2.length:=by rw [HJi.out.ld];exact hbn
       have db0:=HWi.out.ddB.cellI (Zg hbl);obtain ⟨dd,hdd⟩:∃ dd,dd=dl2[b]:=⟨_,rfl⟩;rw [←hdd] at db0;have hgd:dl2.getD b 0=dd:=by rw [hdd,Ya,Zg hbl];rfl
       have k0:(0:Int)≤(b:Int):=by omega
       have k1:(b:Int)<(E.na:Int):=by omega
       have hff:far<1152921504606846976:=by omega
       have hff2:decide (far<1152921504606846976)=true:=by simp;omega
       have hf0:0≤far:=by omega
       have HGD:=Zh hgd;clear hsb hc0 hbl hdd hgd cO1 cC1 hfe
       by_cases hdone:dd=R+1
       · have hd1:(dd == R+1)=true:=by simp [hdone]
         have hd2:decide (dd=R+1)=true:=by simp [hdone]
         have HJX:=Zh (HJi.out.off HZB.out HV.out (fun d h=>h.fn HO0.out) HS.out hbn (by rw [HGD.out];exact hdone))
         exact Kai
       · have hd1:(dd == R+1)=false:=by simp [hdone]
         have hd2:decide (dd=R+1)=false:=by simp [hdone]
         have hd3:(dd != R+1)=true:=by simp [hdone]
         have hd4:decide (dd≠R+1)=true:=by simp [hdone]
         have hd5:(!decide (dd=R+1))=true:=by simp [hdone]
         have hput:=HJi.out.put HSTK.out HZB.out HV.out (fun d h=>h.fn HO0.out) HS.out (by rw [HGD.out];exact hdone);rw [←HFE.out] at hput;have HJP:=Zh hput;have HWd:=Zh (HWi.out.below (Zr _ _).drew);have HPU:=Zh (Qfn wr.drew hp2 HWd.out.hh b hbn far hf0 (by omega));obtain ⟨pb2,hpb2⟩:∃ x,x=Qlg hp2 b far:=⟨_,rfl⟩;rw [←hpb2] at HPU HJP;have HDO:=Zh hdone;clear hput
         go_wp2_with fail
         refine wp_region_held_drew (S:=fun V=>V.cell? ⟨E.qb,7,none⟩=some (.slice (some ⟨E.db,0,none⟩) E.na E.na)∧V.cell? ⟨E.qb,8,none⟩=some (.int .i64 (R+1))∧V.cell? ⟨E.qb,5,none⟩=some (.pointer (some ⟨E.hb,0,none⟩))∧V.cell? ⟨E.db,b,none⟩=some (.int .i64 dd)) (by kernel_rfl) ⟨q7,q8,q5,db0⟩ (fun _=>?_);refine tz 0 118 ?_;refine tz 1 119 ?_;refine tz 2 120 ?_;refine tz 3 121 ?_;refine tz 4 122 ?_;refine tz 5 123 ?_;refine tz 6 124 ?_;refine tz 7 125 ?_;refine tz 8 126 ?_;refine tz 9 127 ?_;refine tz 10 128 ?_;refine tz 11 129 ?_;refine tz 12 130 ?_;refine tz 13 131 ?_;refine tz 14 132 ?_;refine tz 15 133 ?_;refine tz 16 134 ?_;refine tz 17 135 ?_;refine tz 18 136 ?_;refine tz 19 137 ?_;refine tz 20 138 ?_;refine tz 21 139 ?_;refine tz 22 140 ?_;refine Zk 23 (fun K hK=>?_);go_simp;with_reducible refine HPU.out.mono ?_
         rintro e w12 ⟨rfl,hh12,ha12⟩;have HW12:=Zh (HWd.out.heap hh12 ha12);have HL12:=Zh ((HLi.out.trans (Qbc.msk (G:=GG) (Qbc.below (Zr wr.heap.size wr).drew))).trans (Qbc.msk (G:=GG) (ha12.kept.mono (fun _ hb=>.inl (.inl hb)))));have HA12:=Zh (HAi.out.drew.trans (ha12.less (fun b hb=>hb.elim (fun h=>.inl (.inl (HGG.out b h))) (fun h=>.inl (.inr h)))))
         have hdb12:w12.cell? ⟨E.db,b,none⟩=some (.int .i64 dd):=by
          have hbl:b<dl2.length:=by rw [HJi.out.ld];exact hbn
          exact Kcn
         clear hh12 ha12 HPU hpb2;go_simp;refine hK.out _ _ ⟨HW12.out.c7,HW12.out.c8,HW12.out.c5,hdb12⟩ (fun _=>?_);clear hK K;refine tz 24 142 ?_;refine Zd ?_;clear q7 q8 q5 db0 hdb12
         cases pb2 with
         | false =>
          have HJX:=Zh (show OpJ (StQ E.N l c b (Qll E.N E.ls j)) (OpS E.N l c b) s b E.na k z os cs (i+1) (fun q=>if q=k then some z else dnf q) (Qen hp2 b far) dl2 (R+1) bf2 from HJP.out)
          have HWX:=HW12;have HLX:=HL12;have HAX:=HA12
          go_wp2_with fail
          go_roundw
          case rel=>exact ⟨i+1,_,_,by omega,by go_num,HWX.out,HJX.out,HLX.out,HAX.out⟩
          case measure=>simp [intOf];omega
         | true =>
          have q6:=HW12.out.c6;have hbb2:b<bf2.length:=by rw [HJi.out.lb];exact hbn
          have b0:=HW12.out.bfB.cellI (Zg hbb2);have bz:=HW12.out.bfB.frozen b;have HJX:=Zh (show OpJ (StQ E.N l c b (Qll E.N E.ls j)) (OpS E.N l c b) s b E.na k z os cs (i+1) (fun q=>if q=k then some z else dnf q) (Qen hp2 b far) dl2 (R+1) (bf2.set b (k:Int)) from HJP.out)
          have HWX:=Zh (HW12.out.bef b k);have HLX:=Zh (HL12.out.trans (HW12.out.le_set (.inl rfl) b (.int .i64 (k:Int))));have HAX:=Zh (HA12.out.set (i:=b) (fun hg=>(HW12.out.nG E.bb (hg.imp (HGG.out _) id)).2.1 rfl) (.int .i64 (k:Int)))
          go_wp2_with fail
          go_roundw
          case rel=>exact ⟨i+1,_,_,by omega,by go_num,HWX.out,HJX.out,HLX.out,HAX.out⟩
          case measure=>simp [intOf];omega
   · have hbt2:¬(b:Int)=(to:Int):=by omega
     have HWB:=Zh (HWN.out wr b yb (HWi.out.rd.le (Qat _ _)) HYB.out)
     by_cases hwi2:Qaa l yb.1=c∧Qaa l yb.2.1=c
     rotate_left
     · rw [show (decide (Qaa l yb.1=(c:Int)) && decide (Qaa l yb.2.1=(c:Int)))=false by simpa using fun h1 h2=>hwi2 ⟨h1,h2⟩] at HWB
       have HJX:=Zh (HJi.out.skip HZB.out HV.out (Qwq HYB.out (.inr ⟨hbt,.inl hwi2⟩)));have HWX:=HWi;have HLX:=HLi;have HAX:=HAi;clear hwi2 cO1 cC1 hf1b
       go_wp2_with fail
       with_reducible refine HWB.out.mono ?_
       rintro e w' ⟨rfl,rfl⟩
       exact Kby
     rw [show (decide (Qaa l yb.1=(c:Int)) && decide (Qaa l yb.2.1=(c:Int)))=true by simpa using hwi2] at HWB
     obtain ⟨wy,hwy⟩:∃ wy,wy=yb.2.2:=⟨_,rfl⟩;rw [←hwy] at hyw;have q0:=HWi.out.c0;have HGW:=Zh (show Calls prog 83 #[.pointer (some ⟨E.g,0,none⟩),.int .i64 b] wr fun e w'=>e=.returned (.int .i64 wy)∧wr=w' from by rw [hwy];exact Qgj E.g b E.N yb wr (HWi.out.gr.le (Qat _ _)) HYB.out)
     have HAW:=Zh (fun V=>Qef V far1 wy ⟨hf1b.1,hf1b.2.1⟩ ⟨by omega,by omega⟩);obtain ⟨far,hfar⟩:∃ far,far=Qex far1 wy:=⟨_,rfl⟩;rw [←hfar] at HAW;have HIN2:=Zh hwi2;have HFAR:=Zh hfar;have HWY:=Zh hwy;clear hwi2 hfar hwy
     go_wp2_with fail
     with_reducible refine HWB.out.mono ?_
     rintro e w' ⟨rfl,rfl⟩
     go_wp2_with fail
     with_reducible refine HGW.out.mono ?_
     rintro e w' ⟨rfl,rfl⟩
     go_wp2_with fail
     with_reducible refine (HAW.out _).mono ?_
     rintro e w' ⟨rfl,rfl⟩;clear q0
     by_cases hno:p=1152921504606846976∨wy=1152921504606846976
     · have hff:¬far<1152921504606846976:=by
        rw [HFAR.out,HF1.out,Qpu hz0.1 hp0 (by omega) (by omega)];omega
       have HJX:=Zh (HJi.out.skip HZB.out HV.out (Qwq HYB.out (hno.elim .inl (fun h=>.inr ⟨hbt,.inr (by rw [←HWY.out];exact h)⟩))));clear hno hf1b hyw;have hff2:decide (far<1152921504606846976)=false:=by simp;omega
       have q7:=HWi.out.c7;have q8:=HWi.out.c8;clear cO1 cC1
       go_wp2_with fail
       refine wp_region_held_drew (S:=fun V=>V=wr.drew) (by kernel_rfl) rfl (fun _=>?_);refine tz 0 118 ?_;refine tz 1 119 ?_;refine tz 2 120 ?_;refine tw 3 121 ?_;refine tw 4 122 ?_;refine tw 5 123 ?_;refine tw 6 124 ?_;refine tw 7 125 ?_;refine tw 8 126 ?_;refine tw 9 127 ?_;refine tw 10 128 ?_;refine tw 11 129 ?_;refine tw 12 130 ?_;refine tw 13 131 ?_;refine tw 14 132 ?_;refine tz 15 133 ?_;refine tz 16 134 ?_;refine tw 17 135 ?_;refine tw 18 136 ?_;refine tw 19 137 ?_;refine tw 20 138 ?_;refine tw 21 139 ?_;refine tw 22 140 ?_;refine tw 23 141 ?_;refine tz 24 142 ?_;refine Zd ?_;have HWX:=Zh (HWi.out.below (Zr _ _).drew);have HLX:=Zh (HLi.out.trans (Qbc.msk (G:=GG) (Qbc.below (Zr wr.heap.size wr).drew)));have HAX:=Zh (HAi.out.drew)
       go_wp2_with fail
       go_roundw
       case rel=>exact ⟨i+1,_,_,by omega,by go_num,HWX.out,HJX.out,HLX.out,HAX.out⟩
       case measure=>simp [intOf];omega
     · have hO0:=opS_in (l:=l) (c:=c) (to:=to) HYB.out (fun e=>hno (.inl e)) hbt HIN2.out.1 HIN2.out.2 (fun e=>hno (.inr (by rw [HWY.out];exact e)))
       obtain ⟨d0,hd0⟩:∃ d,d=p+yb.2.2:=⟨_,rfl⟩;rw [←hd0] at hO0;have HO0:=Zh hO0;have HS:=Zh (HST.out d0 HO0.out);have hsb0:=HSTK.out.st k b d0 HS.out;rw [←HWY.out] at hd0;have hfe:far=z+d0:=by rw [HFAR.out,HF1.out,Qsy (by omega) (by omega)];omega
       have HFE:=Zh hfe;clear hno hf1b hd0 hsb0 hyw hO0 hfe;have q7:=HWi.out.c7;have q8:=HWi.out.c8;have q5:=HWi.out.c5;have hfe:=HFE.out;have hsb:=HSTK.out.st k b d0 HS.out;have hc0:=HJi.out.c0;have hbl:b<dl2.length:=by rw [HJi.out.ld];exact hbn
       have db0:=HWi.out.ddB.cellI (Zg hbl);obtain ⟨dd,hdd⟩:∃ dd,dd=dl2[b]:=⟨_,rfl⟩;rw [←hdd] at db0;have hgd:dl2.getD b 0=dd:=by rw [hdd,Ya,Zg hbl];rfl
       have k0:(0:Int)≤(b:Int):=by omega
       have k1:(b:Int)<(E.na:Int):=by omega
       have hff:far<1152921504606846976:=by omega
       have hff2:decide (far<1152921504606846976)=true:=by simp;omega
       have hf0:0≤far:=by omega
       have HGD:=Zh hgd;clear hsb hc0 hbl hdd hgd cO1 cC1 hfe
       by_cases hdone:dd=R+1
       · have hd1:(dd == R+1)=true:=by simp [hdone]
         have hd2:decide (dd=R+1)=true:=by simp [hdone]
         have HJX:=Zh (HJi.out.off HZB.out HV.out (fun d h=>h.fn HO0.out) HS.out hbn (by rw [HGD.out];exact hdone))
         exact Kai
       · have hd1:(dd == R+1)=false:=by simp [hdone]
         have hd2:decide (dd=R+1)=false:=by simp [hdone]
         have hd3:(dd != R+1)=true:=by simp [hdone]
         have hd4:decide (dd≠R+1)=true:=by simp [hdone]
         have hd5:(!decide (dd=R+1))=true:=by simp [hdone]
         have hput:=HJi.out.put HSTK.out HZB.out HV.out (fun d h=>h.fn HO0.out) HS.out (by rw [HGD.out];exact hdone);rw [←HFE.out] at hput;have HJP:=Zh hput;have HWd:=Zh (HWi.out.below (Zr _ _).drew);have HPU:=Zh (Qfn wr.drew hp2 HWd.out.hh b hbn far hf0 (by omega));obtain ⟨pb2,hpb2⟩:∃ x,x=Qlg hp2 b far:=⟨_,rfl⟩;rw [←hpb2] at HPU HJP;have HDO:=Zh hdone;clear hput
         go_wp2_with fail
         refine wp_region_held_drew (S:=fun V=>V.cell? ⟨E.qb,7,none⟩=some (.slice (some ⟨E.db,0,none⟩) E.na E.na)∧V.cell? ⟨E.qb,8,none⟩=some (.int .i64 (R+1))∧V.cell? ⟨E.qb,5,none⟩=some (.pointer (some ⟨E.hb,0,none⟩))∧V.cell? ⟨E.db,b,none⟩=some (.int .i64 dd)) (by kernel_rfl) ⟨q7,q8,q5,db0⟩ (fun _=>?_);refine tz 0 118 ?_;refine tz 1 119 ?_;refine tz 2 120 ?_;refine tz 3 121 ?_;refine tz 4 122 ?_;refine tz 5 123 ?_;refine tz 6 124 ?_;refine tz 7 125 ?_;refine tz 8 126 ?_;refine tz 9 127 ?_;refine tz 10 128 ?_;refine tz 11 129 ?_;refine tz 12 130 ?_;refine tz 13 131 ?_;refine tz 14 132 ?_;refine tz 15 133 ?_;refine tz 16 134 ?_;refine tz 17 135 ?_;refine tz 18 136 ?_;refine tz 19 137 ?_;refine tz 20 138 ?_;refine tz 21 139 ?_;refine tz 22 140 ?_;refine Zk 23 (fun K hK=>?_);go_simp;with_reducible refine HPU.out.mono ?_
         rintro e w12 ⟨rfl,hh12,ha12⟩;have HW12:=Zh (HWd.out.heap hh12 ha12);have HL12:=Zh ((HLi.out.trans (Qbc.msk (G:=GG) (Qbc.below (Zr wr.heap.size wr).drew))).trans (Qbc.msk (G:=GG) (ha12.kept.mono (fun _ hb=>.inl (.inl hb)))));have HA12:=Zh (HAi.out.drew.trans (ha12.less (fun b hb=>hb.elim (fun h=>.inl (.inl (HGG.out b h))) (fun h=>.inl (.inr h)))))
         have hdb12:w12.cell? ⟨E.db,b,none⟩=some (.int .i64 dd):=by
          have hbl:b<dl2.length:=by rw [HJi.out.ld];exact hbn
          exact Kcn
         clear hh12 ha12 HPU hpb2;go_simp;refine hK.out _ _ ⟨HW12.out.c7,HW12.out.c8,HW12.out.c5,hdb12⟩ (fun _=>?_);clear hK K;refine tz 24 142 ?_;refine Zd ?_;clear q7 q8 q5 db0 hdb12
         cases pb2 with
         | false =>
          have HJX:=Zh (show OpJ (StQ E.N l c to (Qll E.N E.ls j)) (OpS E.N l c to) s to E.na k z os cs (i+1) (fun q=>if q=k then some z else dnf q) (Qen hp2 b far) dl2 (R+1) bf2 from HJP.out)
          have HWX:=HW12;have HLX:=HL12;have HAX:=HA12
          go_wp2_with fail
          go_roundw
          case rel=>exact ⟨i+1,_,_,by omega,by go_num,HWX.out,HJX.out,HLX.out,HAX.out⟩
          case measure=>simp [intOf];omega
         | true =>
          have q6:=HW12.out.c6;have hbb2:b<bf2.length:=by rw [HJi.out.lb];exact hbn
          have b0:=HW12.out.bfB.cellI (Zg hbb2);have bz:=HW12.out.bfB.frozen b;have HJX:=Zh (show OpJ (StQ E.N l c to (Qll E.N E.ls j)) (OpS E.N l c to) s to E.na k z os cs (i+1) (fun q=>if q=k then some z else dnf q) (Qen hp2 b far) dl2 (R+1) (bf2.set b (k:Int)) from HJP.out)
          have HWX:=Zh (HW12.out.bef b k);have HLX:=Zh (HL12.out.trans (HW12.out.le_set (.inl rfl) b (.int .i64 (k:Int))));have HAX:=Zh (HA12.out.set (i:=b) (fun hg=>(HW12.out.nG E.bb (hg.imp (HGG.out _) id)).2.1 rfl) (.int .i64 (k:Int)))
          go_wp2_with fail
          go_roundw
          case rel=>exact ⟨i+1,_,_,by omega,by go_num,HWX.out,HJX.out,HLX.out,HAX.out⟩
          case measure=>simp [intOf];omega
end
theorem Aft.grown {K:Nat→Prop}{W W':World}{r:Option Nat}(hg:W.grownBy W' r)(hr:∀ b,r=some b→¬K b)(hK:∀ b,K b→b<W.heap.size):Aft K W W' :=
 ⟨Qbc.grown hg (fun b hb e=>hr b e hb),hg.size,fun _ hB=>⟨hg.os,hg.tape,hg.output,hg.size,fun k hk=>hg.block k (hK k (hB k hk)) (fun e=>hr k e.symm (hB k hk))⟩⟩
theorem Way.kid {N:Qam} {ls:List (List Int)} {k c s to i a b:Nat} {l lb:List Int} {v:Int} {bs:List Nat} {cs:List Int} (hok:Qap N) (hP:Qaw N.vs.length ls) (hb:ls[k]?=some lb) (hw:Way (StQ N l c to (Qcs N lb)) s to v bs cs) (ha:(s::bs)[i]?=some a) (hb2:bs[i]?=some b) :
 ∃ (y:Tri) (pr:Int) (c':Nat),N.ar[a]?=some y∧Qaa lb y.2.1=c'∧Qfi N (Qbv lb (Qaa lb y.2.1)) a b pr∧Qhc N lb c' a b pr:=by
 obtain ⟨a',b',e,d,ha',hb',_,hs,_⟩:=hw.at_ (Zs hb2).1;rw [ha] at ha'
 cases ha'
 rw [hb2] at hb'
 cases hb'
 obtain ⟨_,pr,⟨y,z,hy,hz,k1,k2,k3,k4⟩,z',hz',hfin,_⟩:=hs;obtain ⟨_,u,_,e2,_,hu⟩:=Qdi hok hy;obtain ⟨c',hc,_,_⟩:=Qcl (hP.lvl lb (Zm hb)) hu;rw [←e2] at hc;exact ⟨y,pr,c',hy,hc,k4,⟨⟨y,hy,by rw [←hc];exact k1,hc⟩,⟨z,hz,by rw [←hc];exact k2,by rw [←hc];exact k3⟩,by rw [←hc];exact k4,hfin⟩⟩
def OpnR (E:OD)(w:World)(G X:Nat→Prop)(J:Nat)(l:List Int)(c s to:Nat)(v R Lp:Int)(e:Ending)(w':World):Prop :=
 ∃ (A:Option Addr) (k cc m:Nat) (L:List Nat) (G':Nat→Prop) (n':Nat) (f':Nat→Nat→Option Value) (bf' dl':List Int) (hp':Nat→Option Int),e=.returned (.tuple #[.slice A k cc,.bool true])∧Opn E.N (Qbv l c) s to v L∧k=L.length∧m≤J*L.length∧OpW w' G' (fun b=>X b∨Qab A=some b) E n' f' bf' dl' hp' (R+m) (Lp+m)∧OpD E dl' bf' (R+m) n' ∧
  (∀ b,G b→G' b)∧(∀ b,G' b→G b∨w.heap.size≤b)∧Aft (fun b=>G b∨X b) w w'∧RdI (msk w' (fun b=>Qab A=some b)) A k (nis L)∧(∀ b,Qab A=some b→w.heap.size≤b)∧k≤cc∧cc≤9223372036854775807
set_option maxRecDepth 20000 in
set_option maxHeartbeats 4000000 in
theorem Qrz (E:OD)(hE:OdOk E):∀ (j:Nat) (w:World) (G X:Nat→Prop) (n:Nat) (f:Nat→Nat→Option Value) (bf dl:List Int) (hp:Nat→Option Int) (R Lp:Int) (J s to c:Nat) (l:List Int) (v:Int),OpW w G X E n f bf dl hp R Lp→J=j+1→E.ls[j]?=some l→Qhc E.N l c s to v→OpD E dl bf R n→0≤R→R+1000000*J≤1100000000000→0≤Lp→Lp+1000000*J≤1100000000000 →
 Calls prog 65 #[.pointer (some ⟨E.qb,0,none⟩),.int .i64 J,.int .i64 s,.int .i64 to] w (OpnR E w G X J l c s to v R Lp):=by
 intro j
 induction j with
 | zero =>
  intro w G X n f bf dl hp R Lp J s to c l v h hj hl hh hD hR0 hR1 hL0 hL1;have HW1:=Zh (h.lps (Lp+1));have HST:=Zh (Qnt hE HW1.out J hj hl hh hD ⟨hR0,by omega⟩);have HA1:=Zh ((Aft.refl (fun b=>G b∨X b) w).set (i:=9) (fun hg=>(h.nG E.qb hg).2.2.2 rfl) (.int .i64 (Lp+1)));have HO0:=Zh (fun bs cs (hw:Way (StQ E.N l c to (Qll E.N E.ls 0)) s to v bs cs)=>hw.opn0 hE.ok (Qhf hE.hP hl) hh);have hsz:(w.setCell ⟨E.qb,9,none⟩ (.int .i64 (Lp+1))).heap.size=w.heap.size:=by simp [World.setCell]
  have HSZ:=Zh hsz;have q9:=h.c9;have f9:=h.blk.frozen 9;have e1:IntKind.i64.wrap (Lp+1)=Lp+1:=IntWalk.i64_in _ (by omega);have hJ:((J:Int) == 1)=true:=by simp;omega
  have HJ:=Zh hj;clear h hl hh hD hj hR0 hR1 hL0 hL1 hsz
  go_enter func65,ntmps65
  go_wp2_with fail
  with_reducible refine HST.out.mono ?_
  rintro r w2 ⟨A,k,cc,bs,cs,G2',n',f',bf',dl',hp',rfl,hw,hW,hD,hG,hG2,ha,hr,hn,hk,hcp⟩;have HP:=Zh (HO0.out bs cs hw);have HW2:=Zh hW;have HD2:=Zh hD;have HG:=Zh hG;have HG2:=Zh hG2;have HA2:=Zh (HA1.out.trans ha);have HR:=Zh hr;have HN:=Zh hn;have HCP:=Zh hcp;clear hw hW hD hG hG2 ha hr hn hk hcp q9 f9
  go_wp2_with fail
  refine bodyPost_ret (v:=.tuple #[.slice A k cc,.bool true]) (by simp [results,results65,go_sem]) rfl ?_;have hl1:=HP.out.len.1;refine ⟨A,k,cc,1,bs,G2',n',f',bf',dl',hp',rfl,HP.out,?_,?_,HW2.out,HD2.out,HG.out,fun b hb=>?_,HA2.out,HR.out,fun b hb=>?_,HCP.out⟩
  · have:=HR.out.1;rw [Qck] at this;exact this.symm
  · have:=HJ.out;subst this;omega
  · have:=HG2.out b hb;rw [HSZ.out] at this;exact this
  · have:=HN.out b hb;rw [HSZ.out] at this;exact this
 | succ k ih =>
  intro w G X n f bf dl hp R Lp J s to c l v h hj hl hh hD hR0 hR1 hL0 hL1;obtain ⟨lb,hb⟩:∃ lb,E.ls[k]?=some lb:=⟨_,Zg (by have:=(Zs hl).1;omega)⟩;obtain ⟨x,hx⟩:=Qrb hE.ok hE.hP hE.hA hb hl hh;have hJ6:J≤6:=by have:=(Zs hl).1;have:=hE.hP.l6;omega
  have HLV:=Zh hx;have HLP:=Zh hh;have HW1:=Zh (h.lps (Lp+1));have HST:=Zh (Qnt hE HW1.out J hj hl hh hD ⟨hR0,by omega⟩);have HPO:=Zh (Qll.succ (N:=E.N) hb);have HA1:=Zh ((Aft.refl (fun b=>G b∨X b) w).set (i:=9) (fun hg=>(h.nG E.qb hg).2.2.2 rfl) (.int .i64 (Lp+1)));have HKD:=Zh (fun bs cs i a b (hw:Way (StQ E.N l c to (Qcs E.N lb)) s to v bs cs) (ha:(s::bs)[i]?=some a) (hb2:bs[i]?=some b)=>hw.kid hE.ok hE.hP hb ha hb2);obtain ⟨K1,hK1⟩:∃ K1,K1=k+1:=⟨_,rfl⟩;have HIH:=Zh (fun W G X n f bf dl hp R Lp s to c v (h:OpW W G X E n f bf dl hp R Lp) hh hD hR0 hR1 hL0 hL1=>ih W G X n f bf dl hp R Lp K1 s to c lb v h hK1 hb hh hD hR0 hR1 hL0 hL1);have HK1:=Zh hK1;have hsz:(w.setCell ⟨E.qb,9,none⟩ (.int .i64 (Lp+1))).heap.size=w.heap.size:=by simp [World.setCell]
  have HSZ:=Zh hsz;have HGL:=Zh h.gl;have hna4:E.N.ar.length≤16384:=hE.ok.la;have q9:=h.c9;have f9:=h.blk.frozen 9;have e1:IntKind.i64.wrap (Lp+1)=Lp+1:=IntWalk.i64_in _ (by omega);have hJ:((J:Int) == 1)=false:=by simp;omega
  have hJm:(J:Int)-1=(K1:Int):=by omega
  have e3:IntKind.i64.wrap (K1:Int)=(K1:Int):=IntWalk.i64_in _ (by omega);have HJ:=Zh hj;have HBD:=Zh (show (0≤R∧R+1000000*(J:Int)≤1100000000000)∧0≤Lp∧Lp+1000000*(J:Int)≤1100000000000 from ⟨⟨hR0,hR1⟩,hL0,hL1⟩)
  clear h hl hh hD hj hR0 hR1 hL0 hL1 hsz ih hb hx hK1
  go_enter func65,ntmps65
  go_wp2_with fail
  with_reducible refine HST.out.mono ?_
  rintro r w2 ⟨A0,k0,cc,bs,cs,G2',n',f',bf',dl',hp',rfl,hw,hW,hD,hG,hG2,ha,hr,hn,hk,hcp⟩;rw [HPO.out] at hw;have hpos:=hw.pos HLP.out.ne;have HWY:=Zh hw;have HW2:=Zh hW;have HD2:=Zh hD;have HG:=Zh hG;have HG2:=Zh (show ∀ b,G2' b→G b∨w.heap.size≤b by rw [←HSZ.out];exact hG2)
  have HA2:=Zh (HA1.out.trans ha);have HR2:=Zh hr;have HN2:=Zh (show ∀ b,Qab A0=some b→w.heap.size≤b by rw [←HSZ.out];exact hn)
  have HS02:=Zh (show w.heap.size≤w2.heap.size from HA2.out.size)
  have HA0L:=Zh (show ∀ b,Qab A0=some b→b<w2.heap.size from fun b hb=>HW2.out.gl b (.inr (.inr hb)))
  have HK0:=Zh (show bs.length=k0 by have:=hr.1;rw [Qck] at this;exact this)
  have HPS:=Zh hpos;clear hw hW hD hG hG2 ha hr hn hcp q9 f9 hpos HA1 HST HW1
  go_wp2_with fail
  go_loopw [2,12,42] (fun us ua ui W=>∃ (i a:Nat) (L:List Nat) (A1:Option Addr) (n1 c1 m:Nat) (G':Nat→Prop) (n':Nat) (f':Nat→Nat→Option Value) (bf' dl':List Int) (hp':Nat→Option Int),i≤k0∧ui=.int .i64 i∧us=.int .i64 a∧(s::bs)[i]?=some a∧ua=.slice A1 n1 c1∧n1=L.length∧OwR E.N l lb c s to v bs cs i L ∧
   Own W w2.heap.size 3 1 A1 n1 c1 (Qag (nis L))∧OpW W G' (fun b=>(X b∨Qab A0=some b)∨Qab A1=some b) E n' f' bf' dl' hp' (R+1+m) (Lp+1+m)∧OpD E dl' bf' (R+1+m) n'∧m≤(k+1)*L.length∧(∀ b,G b→G' b)∧(∀ b,G' b→G b∨w.heap.size≤b)∧Aft (fun b=>G b∨X b) w W∧RdI (msk W (fun b=>Qab A0=some b)) A0 k0 (nis bs)∧(∀ b,Qab A1=some b→¬G' b)∧w2.heap.size≤W.heap.size) (fun _ _ ui _=>k0-(intOf ui).toNat)
  case atStart =>
   refine ⟨0,s,[],none,0,0,0,G2',n',f',bf',dl',hp',Nat.zero_le _,rfl,rfl,rfl,rfl,rfl,OwR.init HPS.out,Own.nil _ _ _ _,?_,?_,Nat.zero_le _,HG.out,HG2.out,HA2.out,HR2.out,fun b hb=>(by cases hb),Zn _⟩
   · have:=HW2.out.holds (Zr _ _) (X':=fun b=>(X b∨Qab A0=some b)∨Qab none=some b) (fun b hb=>hb.elim .inl (fun h=>by cases h))
     simpa using this
   · simpa using HD2.out
  case round =>
   clear HW2 HD2 HA2 HR2 HG HG2;obtain ⟨i,a,L,A1,n1,c1,m,G',n',f',bf',dl',hp',hik,rfl,rfl,hia,rfl,hn1,how,hown,hW,hD,hm,hG,hG2,ha,hr,hng,hsz2⟩:=hrel;have HOW:=Zh how;have HOWN:=Zh hown;have HW:=Zh hW;have HD:=Zh hD;have HG:=Zh hG;have HG2:=Zh hG2;have HA:=Zh ha;have HR:=Zh hr;have HNG:=Zh hng;have HIA:=Zh hia;have HN1:=Zh hn1;have HM:=Zh hm;have HS2:=Zh hsz2;have hlL:=how.len HWY.out HLV.out HLP.out;clear how hown hW hD hG hG2 ha hr hng hia hm hn1
   by_cases hlt:i<k0
   rotate_left
   · obtain rfl:i=k0:=by omega
     have j2:¬((i:Int)<(i:Int)):=by omega
     have HP:=Zh (HOW.out.fin (by rw [HK0.out]));clear hlL
     go_wp2_with fail
     refine bodyPost_ret (v:=.tuple #[.slice A1 n1 c1,.bool true]) (by simp [results,results65,go_sem]) rfl ?_;have hl1:=HP.out.len.1;have hlo:=HOWN.out.lt;refine ⟨A1,n1,c1,m+1,L,G',n',f',bf',dl',hp',rfl,HP.out,HN1.out,?_,?_,?_,HG.out,HG2.out,HA.out,HOWN.out.rds.rdI.ownM,fun b hb=>?_,HOWN.out.cap,HOWN.out.capMax⟩
     · have h1:=HM.out
       have h2:=HJ.out;subst h2;rw [show k+1+1=(k+1)+1 from rfl,Nat.add_mul]
       omega
     · have:=HW.out.holds (Zr _ _) (X':=fun b=>X b∨Qab A1=some b) (fun b hb=>.inl (hb.elim (fun h=>.inl (.inl h)) .inr))
       rw [show R+((m+1:Nat):Int)=R+1+m by omega,show Lp+((m+1:Nat):Int)=Lp+1+m by omega]
       exact this
     · rw [show R+((m+1:Nat):Int)=R+1+m by omega]
       exact HD.out
     · have:=(hlo b hb).1
       have:=HS02.out;omega
   obtain ⟨b0,o0,zb,rfl,hzb,cO1⟩:=(HR.out.le (Qat _ _)).at_ hlt;obtain ⟨b,hbs⟩:∃ b,bs[i]?=some b:=⟨_,Zg (by rw [HK0.out];exact hlt)⟩
   have hzb2:zb=(b:Int):=by
    have:=Qcd hbs;rw [hzb] at this;exact Yv this
   subst hzb2;obtain ⟨y,pr,c',hy,hcy,hpr,hlp⟩:=HKD.out bs cs i a b HWY.out HIA.out hbs;have hb1:=HBD.out
   have hm5:m≤98304:=by
    have h1:=HM.out;have h2:(k+1)*L.length≤6*16384:=Nat.mul_le_mul (by have:=HJ.out;omega) (by omega);omega
   have hkJ:=HJ.out;have hkK:=HK1.out;have HCA:=Zh (HIH.out wr G' _ n' f' bf' dl' hp' (R+1+m) (Lp+1+m) a b c' pr HW.out hlp HD.out (by omega) (by omega) (by omega) (by omega));have HY:=Zh hy;have HCY:=Zh hcy;have HPR:=Zh hpr;have HBS:=Zh hbs;have j0:(0:Int)≤(i:Int):=by omega
   have j1:(i:Int)<(k0:Int):=by omega
   have HSZW:=Zh HA.out.size;clear hy hcy hpr hlp hb1 hm5 hkJ hkK hzb hbs
   go_wp2_with fail
   with_reducible refine HCA.out.mono ?_
   rintro e w4 ⟨A2,k2,c2,m2,L2,G3,n3,f3,bf3,dl3,hp3,rfl,hop,hk2,hm2,hW4,hD4,hG4,hG5,ha4,hr4,hn4,_⟩;have HOP:=Zh hop;have HK2:=Zh hk2;have HM2:=Zh hm2;have HW4:=Zh hW4;have HD4:=Zh hD4;have HG4:=Zh hG4;have HG5:=Zh hG5;have HA4:=Zh ha4;have HR4:=Zh hr4;have HN4:=Zh hn4;have hL2:=hop.len.2;have hown4:=HOWN.out.keepK ha4.kept (fun q hq=>.inr (.inr hq));have hrd4:Rds w4 1 A2 k2 (Qag (nis L2)):=(hr4.le (Qat _ _)).rdsI;have hsz4:w2.heap.size≤w4.heap.size:=Yx HS2.out ha4.size;clear hop hk2 hm2 hW4 hD4 hG4 hG5 ha4 hr4 hn4 cO1;have hk2':k2≤16384:=by rw [HK2.out];omega
   have hn1':n1≤16384:=by rw [HN1.out];omega
   go_wp2_with (at_builtin;with_reducible refine Qal rfl (.tmp 57) (.tmp 58) 61 rfl 3 _ 1 8 Qbm underlying61 rfl (by omega) rfl rfl hown4 hrd4 (Qao _) (by omega) (by omega) hsz4 ?_)
   intro A3 c3 w5 ho5 hg5 hat5;have HO5:=Zh ho5;have hlt4:=hown4.lt;have hlt5:=ho5.lt
   have HX5:=Zh (HW4.out.grow (X':=fun q=>(X q∨Qab (some ⟨b0,o0,none⟩)=some q)∨Qab A3=some q) hg5 (fun q hq=>⟨.inl (.inr hq),fun hg=>(HG5.out q hg).elim (HNG.out q hq) (fun h=>by have:=(HOWN.out.lt q hq).2;omega)⟩) (fun q hq=>by
    rcases hq with h1|h1
    · exact .inl (.inl (.inl h1))
    · rcases hat5 with h2|h2
      · exact .inl (.inl (.inr (h2▸h1)))
      · have h3:=(hlt5 q h1).2
        rw [h2] at h1
        cases h1
        exact .inr ⟨Zn _,h3⟩))
   have HA5:=Zh ((HA.out.trans (HA4.out.less (fun q hq=>hq.elim (fun h=>.inl (HG.out q h)) (fun h=>.inr (.inl (.inl h)))))).trans (Aft.grown hg5 (fun q hq hK=>by
    have h1:=(hlt4 q hq).1;have h2:=HGL.out q hK;have h3:=HS02.out;omega) (fun q hq=>by have h1:=HGL.out q hq;have h2:=HA.out.size;have h3:=HA4.out.size;omega)))
   have HNG5:=Zh (show ∀ q,Qab A3=some q→¬G3 q from fun q hq hg=>by
    rcases hat5 with h2|h2
    · rw [h2] at hq
      exact (HG5.out q hg).elim (HNG.out q hq) (fun h=>by have:=(HOWN.out.lt q hq).2;omega)
    · rw [h2] at hq
      cases hq
      have:=HW4.out.gl _ (.inl hg);omega)
   have HR5:=Zh ((HR.out.le (Qbc.msk (HA4.out.kept.mono (fun q hq=>.inr (.inl (.inr hq)))))).le (Qbc.msk (Qbc.grown hg5 (fun q hq e=>by
    have h1:=(hlt4 q e).1;have h2:=HA0L.out q hq;omega))))
   have HNX:=Zh (HOW.out.next HLV.out HLP.out HWY.out (by rw [HK0.out];exact hlt) HIA.out HBS.out HY.out HPR.out (by rw [HCY.out];exact HOP.out));have hs5:=hg5.size;clear hown4 hrd4 ho5 hg5 hat5 hlt4 hlt5
   go_wp2_with fail
   go_roundw
   case rel =>
    refine ⟨i+1,b,L ++L2,A3,n1+k2,c3,m+m2,G3,n3,f3,bf3,dl3,hp3,by omega,by go_num,rfl,by rw [List.getElem?_cons_succ];exact HBS.out,rfl,by rw [Yp,HN1.out,HK2.out],HNX.out,?_,?_,?_,?_,fun q hq=>HG4.out q (HG.out q hq),fun q hq=>?_,HA5.out,HR5.out,HNG5.out,by omega⟩
    · rw [Qfj,Qbj];exact HO5.out
    · rw [show R+1+((m+m2:Nat):Int)=R+1+m+m2 by omega,show Lp+1+((m+m2:Nat):Int)=Lp+1+m+m2 by omega]
      exact HX5.out
    · rw [show R+1+((m+m2:Nat):Int)=R+1+m+m2 by omega]
      exact HD4.out
    · have h1:=HM.out
      have h2:=HM2.out;rw [HK1.out] at h2;rw [Yp,Nat.mul_add];omega
    · rcases HG5.out q hq with h1|h1
      · exact HG2.out q h1
      · have:=HSZW.out;exact .inr (by omega)
   case measure=>simp [intOf];omega
def Qgx (N:Qam)(s t:Nat)(v:Int):Prop:=(wV N s=1152921504606846976∧v=1152921504606846976)∨(wV N s≠1152921504606846976∧Lst (Rch (StW N) s t) v)
inductive Qvv (N:Qam) (ls:List (List Int)) (av:List Int):Nat→Int→List (Nat×Nat)→Nat→Int→Prop
 | nil {p:Nat} {c:Int}:Qvv N ls av p c [] p c
 | cons {p q t:Nat} {c d v:Int} {hs:List (Nat×Nat)}:HSt N ls av p q d→Qvv N ls av q (c+d) hs t v→Qvv N ls av p c ((p,q)::hs) t v
section
variable {N:Qam} {ls:List (List Int)} {av:List Int} {s p q t:Nat} {c d v:Int} {hs hs':List (Nat×Nat)} {l m:List Nat}
theorem HopP.then_ (h:HopP N ls av s p c hs)(g:Qvv N ls av p c hs' t v):Qvv N ls av s 0 (hs ++hs') t v:=by
 induction h generalizing hs' with
 | start=>exact g
 | @step p q c d hs _ h2 ih =>
  rw [List.append_assoc];exact ih (.cons h2 g)
theorem HopP.hopC (h:HopP N ls av s t v hs):Qvv N ls av s 0 hs t v:=by
 have:=h.then_ .nil
 rwa [List.append_nil] at this
theorem Opn.row {mk:List Bool}(h:Opn N mk p q v l){z:Tri} (hz:N.ar[q]?=some z) (hw:z.2.2≠1152921504606846976):Qdg (StW N) p q (v+z.2.2) l:=by
 obtain ⟨⟨r,c,e,l',h1,h2,rfl,rfl⟩,_⟩:=h;rw [show c+e+z.2.2=c+(e+z.2.2) by omega]
 exact (h1.mono (fun _ _ _ h=>h.all)).step ⟨z,hz,h2.1,hw,by rw [h2.2]⟩
theorem HSt.lp (h:HSt N ls av p q d){j:Nat} (hj:Qgt ls (toV N p) av=j+1):∃ (l:List Int) (y z:Tri) (v:Int),ls[j]?=some l∧N.ar[p]?=some y∧N.ar[q]?=some z∧Qhc N l (Qaa l y.2.1) p q v∧z.2.2≠1152921504606846976∧d=v+z.2.2:=by
 rcases h with ⟨h0,_⟩|⟨j',l,y,z,v,h1,h2,h3,h4,h5,h6,h7,h8,h9,h10,h11⟩
 · omega
 · obtain rfl:j=j':=by omega
   exact ⟨l,y,z,v,h2,h3,h4,⟨⟨y,h3,h5,rfl⟩,⟨z,h4,h6,h7⟩,h9,h10⟩,h8,h11⟩
theorem HSt.flat (h:HSt N ls av p q d) (hj:Qgt ls (toV N p) av=0):StW N p q d:=by
 rcases h with ⟨_,h1⟩|⟨j',l,y,z,v,h1,_⟩
 · exact h1
 · omega
structure PthP (N:Qam) (s t:Nat) (K:Nat) (v:Int) (L:List Nat) (k:Int):Prop where
 dist:Qgx N s t v
 row:v≠1152921504606846976→∃ l,L=s::l∧Qdg (StW N) s t v l∧l.length≤268435456
 none_:v=1152921504606846976→L=[]∧k=0
 k0:0≤k
 kb:k≤(K:Int)*L.length
theorem Qdg.at_ {St:Qbd}(h:Qdg St s t v l):∀ (i:Nat) (a:Nat),(s::l)[i]?=some a→∃ c1 c2,Qdg St s a c1 (l.take i)∧Qdg St a t c2 (l.drop i)∧v=c1+c2:=by
 induction h with
 | start =>
  intro i a ha
  cases i with
  | zero=>cases ha;exact ⟨0,0,.start,.start,rfl⟩
  | succ i=>simp at ha
 | @step p q c d l h1 h2 ih =>
  intro i a ha
  rcases Nat.lt_or_ge i (l.length+1) with hi|hi
  · rw [←List.cons_append,Yc (by simpa using hi)] at ha
    obtain ⟨c1,c2,g1,g2,rfl⟩:=ih i a ha;refine ⟨c1,c2+d,?_,?_,by omega⟩
    · rw [List.take_append_of_le_length (by omega)];exact g1
    · rw [List.drop_append_of_le_length (by omega)];exact g2.step h2
  · have h3:=(Zs ha).1
    simp only [List.length_cons,Yp,List.length_nil] at h3;obtain rfl:i=l.length+1:=by omega
    rw [List.getElem?_cons_succ,Yb (Zn _),Yy] at ha
    cases ha
    refine ⟨c+d,0,?_,?_,by omega⟩
    · rw [Ye (by simp)];exact h1.step h2
    · rw [List.drop_of_length_le (by simp)];exact .start
theorem Qus (hok:Qap N){x y a b:Nat} (h:Qdg (StW N) s t v l) (hd:Qgx N s t v) (hv:v≠1152921504606846976) (ha:(s::l)[x]?=some a) (hb:(s::l)[y]?=some b) (hxy:x≤y):∃ e,Qdg (StW N) a b e ((l.drop x).take (y-x))∧Qgx N a b e∧e≠1152921504606846976:=by
 obtain ⟨c1,c2,g1,g2,rfl⟩:=h.at_ x a ha
 have hb':(a::l.drop x)[y-x]?=some b:=by
  rcases Nat.eq_or_lt_of_le hxy with e|e
  · subst e
    rw [ha] at hb
    cases hb
    rw [Yy]
    rfl
  · obtain ⟨k,hk⟩:∃ k,y=x+(k+1):=⟨y-x-1,by omega⟩
    subst hk;rw [show x+(k+1)-x=k+1 by omega,List.getElem?_cons_succ,List.getElem?_drop]
    rw [←Nat.add_assoc,List.getElem?_cons_succ] at hb;exact hb
 obtain ⟨c3,c4,g3,g4,rfl⟩:=g2.at_ (y-x) b hb';have hpos:∀ p q d,StW N p q d→0≤d:=fun p q d h=>(h.bd hok).1
 obtain ⟨hs,hm⟩:wV N s≠1152921504606846976∧∀ e,Rch (StW N) s t e→c1+(c3+c4)≤e:=by
  rcases hd with ⟨_,h2⟩|⟨h1,⟨_,h3⟩|⟨h2,_⟩⟩
  · exact absurd h2 hv
  · exact ⟨h1,h3⟩
  · exact absurd h2 hv
 have hwa:wV N a≠1152921504606846976:=by
  cases x with
  | zero=>cases ha;exact hs
  | succ x =>
   rw [List.getElem?_cons_succ] at ha;obtain ⟨_,_,y,hy,_,h2,_⟩:=h.mem (Zm ha);rw [(Qbr hy).2.2];exact h2
 have hle:∀ e,Rch (StW N) a b e→c3≤e:=fun e he=>by
  have:=hm _ ((g1.rch.trans he).trans g4.rch);omega
 obtain ⟨e,he,heb⟩:=Qrp hok g3.rch;have:=hle e he;unfold MB at heb;exact ⟨c3,g3,.inr ⟨hwa,.inl ⟨g3.rch,hle⟩⟩,by omega⟩
end
end Go.Proofs.YtdheeddnkdhfeaaGreatDoor
