/- Parts of the proof: Yl, AsF, Yp, Err, Ft, AsD, Yn, Yq. -/
import Derived.Test.YtdheeddnkdhfeaaGreatDoorH17
import Derived.LaidEql
import Derived.Stop.Asserts
import Derived.RowKitTokens
import Derived.Lib.IfaceEq
import Derived.Stop.IfaceNil
import Derived.Test.YtdheeddnkdhfeaaGreatDoorShelf4
import Derived.Shelf.Spec.SlicesGrow
namespace Go.Proofs.YtdheeddnkdhfeaaGreatDoor
open Go.RowKit Go.Proofs.Tryz
attribute [local go_sem ↓] Go.wp_at_zero Go.wp_at_succ
theorem Aft.grown {K:Nat→Prop}{W W':World}{r:Option Nat}(hg:W.grownBy W' r)(hr:∀ b,r=some b→¬K b)(hK:∀ b,K b→b<W.heap.size):Aft K W W' :=
 ⟨Qaz.grown hg (fun b hb e=>hr b e hb),hg.size,fun _ hB=>⟨hg.os,hg.tape,hg.output,hg.size,fun k hk=>hg.block k (hK k (hB k hk)) (fun e=>hr k e.symm (hB k hk))⟩⟩
theorem Way.kid {N:Qam} {ls:List (List Int)} {k c s to i a b:Nat} {l lb:List Int} {v:Int} {bs:List Nat} {cs:List Int} (hok:Qap N) (hP:Qat N.vs.length ls) (hb:ls[k]?=some lb) (hw:Way (StQ N l c to (Qcu N lb)) s to v bs cs) (ha:(s::bs)[i]?=some a) (hb2:bs[i]?=some b) :
 ∃ (y:Tri) (pr:Int) (c':Nat),N.ar[a]?=some y∧Qaa lb y.2.1=c'∧Qet N (Qbv lb (Qaa lb y.2.1)) a b pr∧Qgz N lb c' a b pr:=by obtain ⟨a',b',e,d,ha',hb',_,hs,_⟩:=hw.at_ (Zs hb2).1;rw [ha] at ha';cases ha';rw [hb2] at hb';cases hb';obtain ⟨_,pr,⟨y,z,hy,hz,k1,k2,k3,k4⟩,z',hz',hfin,_⟩:=hs;obtain ⟨_,u,_,e2,_,hu⟩:=Qda hok hy;obtain ⟨c',hc,_,_⟩:=Qcm (hP.lvl lb (Zm hb)) hu;rw [←e2] at hc;exact ⟨y,pr,c',hy,hc,k4,⟨⟨y,hy,by rw [←hc];exact k1,hc⟩,⟨z,hz,by rw [←hc];exact k2,by rw [←hc];exact k3⟩,by rw [←hc];exact k4,hfin⟩⟩
def OpnR (E:OD)(w:World)(G X:Nat→Prop)(J:Nat)(l:List Int)(c s to:Nat)(v R Lp:Int)(e:Ending)(w':World):Prop :=
 ∃ (A:Option Addr) (k cc m:Nat) (L:List Nat) (G':Nat→Prop) (n':Nat) (f':Nat→Nat→Option Value) (bf' dl':List Int) (hp':Nat→Option Int),e=.returned (.tuple #[.slice A k cc,.bool true])∧Opn E.N (Qbv l c) s to v L∧k=L.length∧m≤J*L.length∧OpW w' G' (fun b=>X b∨Qab A=some b) E n' f' bf' dl' hp' (R+m) (Lp+m)∧OpD E dl' bf' (R+m) n' ∧
  (∀ b,G b→G' b)∧(∀ b,G' b→G b∨w.heap.size≤b)∧Aft (fun b=>G b∨X b) w w'∧RdI (msk w' (fun b=>Qab A=some b)) A k (nis L)∧(∀ b,Qab A=some b→w.heap.size≤b)∧k≤cc∧cc≤9223372036854775807
set_option maxRecDepth 20000 in
set_option maxHeartbeats 4000000 in
theorem Qtp (E:OD)(hE:OdOk E):∀ (j:Nat) (w:World) (G X:Nat→Prop) (n:Nat) (f:Nat→Nat→Option Value) (bf dl:List Int) (hp:Nat→Option Int) (R Lp:Int) (J s to c:Nat) (l:List Int) (v:Int),OpW w G X E n f bf dl hp R Lp→J=j+1→E.ls[j]?=some l→Qgz E.N l c s to v→OpD E dl bf R n→0≤R→R+1000000*J≤1100000000000→0≤Lp→Lp+1000000*J≤1100000000000 →
 Calls prog 65 #[.pointer (some ⟨E.qb,0,none⟩),.int .i64 J,.int .i64 s,.int .i64 to] w (OpnR E w G X J l c s to v R Lp):=by
 intro j
 induction j with
 | zero =>
  intro w G X n f bf dl hp R Lp J s to c l v h hj hl hh hD hR0 hR1 hL0 hL1;have HW1:=Zh (h.lps (Lp+1));have HST:=Zh (Qpq hE HW1.out J hj hl hh hD ⟨hR0,by omega⟩);have HA1:=Zh ((Aft.refl (fun b=>G b∨X b) w).set (i:=9) (fun hg=>(h.nG E.qb hg).2.2.2 rfl) (.int .i64 (Lp+1)));have HO0:=Zh (fun bs cs (hw:Way (StQ E.N l c to (Qma E.N E.ls 0)) s to v bs cs)=>hw.opn0 hE.ok (Qie hE.hP hl) hh);have hsz:(w.setCell ⟨E.qb,9,none⟩ (.int .i64 (Lp+1))).heap.size=w.heap.size:=by simp [World.setCell]
  have HSZ:=Zh hsz;have q9:=h.c9;have f9:=h.blk.frozen 9;have e1:IntKind.i64.wrap (Lp+1)=Lp+1:=IntWalk.i64_in _ (by omega);have hJ:((J:Int) == 1)=true:=by simp;omega
  have HJ:=Zh hj;clear h hl hh hD hj hR0 hR1 hL0 hL1 hsz;go_enter func65,ntmps65
  go_wp2_with fail
  with_reducible refine HST.out.mono ?_
  rintro r w2 ⟨A,k,cc,bs,cs,G2',n',f',bf',dl',hp',rfl,hw,hW,hD,hG,hG2,ha,hr,hn,hk,hcp⟩;have HP:=Zh (HO0.out bs cs hw);have HW2:=Zh hW;have HD2:=Zh hD;have HG:=Zh hG;have HG2:=Zh hG2;have HA2:=Zh (HA1.out.trans ha);have HR:=Zh hr;have HN:=Zh hn;have HCP:=Zh hcp;clear hw hW hD hG hG2 ha hr hn hk hcp q9 f9;go_wp2_with fail
  refine bodyPost_ret (v:=.tuple #[.slice A k cc,.bool true]) (by simp [results,results65,go_sem]) rfl ?_;have hl1:=HP.out.len.1;refine ⟨A,k,cc,1,bs,G2',n',f',bf',dl',hp',rfl,HP.out,?_,?_,HW2.out,HD2.out,HG.out,fun b hb=>?_,HA2.out,HR.out,fun b hb=>?_,HCP.out⟩;{have:=HR.out.1;rw [Qdf] at this;exact this.symm};{have:=HJ.out;subst this;omega};{have:=HG2.out b hb;rw [HSZ.out] at this;exact this};{have:=HN.out b hb;rw [HSZ.out] at this;exact this}
 | succ k ih =>
  intro w G X n f bf dl hp R Lp J s to c l v h hj hl hh hD hR0 hR1 hL0 hL1;obtain ⟨lb,hb⟩:∃ lb,E.ls[k]?=some lb:=⟨_,Zg (by have:=(Zs hl).1;omega)⟩;obtain ⟨x,hx⟩:=Qrp hE.ok hE.hP hE.hA hb hl hh;have hJ6:J≤6:=by have:=(Zs hl).1;have:=hE.hP.l6;omega
  have HLV:=Zh hx;have HLP:=Zh hh;have HW1:=Zh (h.lps (Lp+1));have HST:=Zh (Qpq hE HW1.out J hj hl hh hD ⟨hR0,by omega⟩);have HPO:=Zh (Qma.succ (N:=E.N) hb);have HA1:=Zh ((Aft.refl (fun b=>G b∨X b) w).set (i:=9) (fun hg=>(h.nG E.qb hg).2.2.2 rfl) (.int .i64 (Lp+1)));have HKD:=Zh (fun bs cs i a b (hw:Way (StQ E.N l c to (Qcu E.N lb)) s to v bs cs) (ha:(s::bs)[i]?=some a) (hb2:bs[i]?=some b)=>hw.kid hE.ok hE.hP hb ha hb2);obtain ⟨K1,hK1⟩:=Zx (k+1);have HIH:=Zh (fun W G X n f bf dl hp R Lp s to c v (h:OpW W G X E n f bf dl hp R Lp) hh hD hR0 hR1 hL0 hL1=>ih W G X n f bf dl hp R Lp K1 s to c lb v h hK1 hb hh hD hR0 hR1 hL0 hL1);have HK1:=Zh hK1;have hsz:(w.setCell ⟨E.qb,9,none⟩ (.int .i64 (Lp+1))).heap.size=w.heap.size:=by simp [World.setCell]
  have HSZ:=Zh hsz;have HGL:=Zh h.gl;have hna4:E.N.ar.length≤16384:=hE.ok.la;have q9:=h.c9;have f9:=h.blk.frozen 9;have e1:IntKind.i64.wrap (Lp+1)=Lp+1:=IntWalk.i64_in _ (by omega);have hJ:((J:Int) == 1)=false:=by simp;omega
  have hJm:(J:Int)-1=K1:=by omega
  have e3:IntKind.i64.wrap (K1:Int)=(K1:Int):=IntWalk.i64_in _ (by omega);have HJ:=Zh hj;have HBD:=Zh (show (0≤R∧R+1000000*(J:Int)≤1100000000000)∧0≤Lp∧Lp+1000000*(J:Int)≤1100000000000 from ⟨⟨hR0,hR1⟩,hL0,hL1⟩);clear h hl hh hD hj hR0 hR1 hL0 hL1 hsz ih hb hx hK1;go_enter func65,ntmps65
  go_wp2_with fail
  with_reducible refine HST.out.mono ?_
  rintro r w2 ⟨A0,k0,cc,bs,cs,G2',n',f',bf',dl',hp',rfl,hw,hW,hD,hG,hG2,ha,hr,hn,hk,hcp⟩;rw [HPO.out] at hw;have hpos:=hw.pos HLP.out.ne;have HWY:=Zh hw;have HW2:=Zh hW;have HD2:=Zh hD;have HG:=Zh hG;have HG2:=Zh (show ∀ b,G2' b→G b∨w.heap.size≤b by rw [←HSZ.out];exact hG2);have HA2:=Zh (HA1.out.trans ha);have HR2:=Zh hr;have HN2:=Zh (show ∀ b,Qab A0=some b→w.heap.size≤b by rw [←HSZ.out];exact hn);have HS02:=Zh (show w.heap.size≤w2.heap.size from HA2.out.size);have HA0L:=Zh (show ∀ b,Qab A0=some b→b<w2.heap.size from fun b hb=>HW2.out.gl b (.inr (.inr hb)));have HK0:=Zh (show bs.length=k0 by have:=hr.1;rw [Qdf] at this;exact this);have HPS:=Zh hpos;clear hw hW hD hG hG2 ha hr hn hcp q9 f9 hpos HA1 HST HW1;go_wp2_with fail
  go_loopw [2,12,42] (fun us ua ui W=>∃ (i a:Nat) (L:List Nat) (A1:Option Addr) (n1 c1 m:Nat) (G':Nat→Prop) (n':Nat) (f':Nat→Nat→Option Value) (bf' dl':List Int) (hp':Nat→Option Int),i≤k0∧ui=.int .i64 i∧us=.int .i64 a∧(s::bs)[i]?=some a∧ua=.slice A1 n1 c1∧n1=L.length∧OwR E.N l lb c s to v bs cs i L ∧
   Own W w2.heap.size 3 1 A1 n1 c1 (Qag (nis L))∧OpW W G' (fun b=>(X b∨Qab A0=some b)∨Qab A1=some b) E n' f' bf' dl' hp' (R+1+m) (Lp+1+m)∧OpD E dl' bf' (R+1+m) n'∧m≤(k+1)*L.length∧(∀ b,G b→G' b)∧(∀ b,G' b→G b∨w.heap.size≤b)∧Aft (fun b=>G b∨X b) w W∧RdI (msk W (fun b=>Qab A0=some b)) A0 k0 (nis bs)∧(∀ b,Qab A1=some b→¬G' b)∧w2.heap.size≤W.heap.size) (fun _ _ ui _=>k0-(intOf ui).toNat)
  case atStart =>refine ⟨0,s,[],none,0,0,0,G2',n',f',bf',dl',hp',Nat.zero_le _,rfl,rfl,rfl,rfl,rfl,OwR.init HPS.out,Own.nil _ _ _ _,?_,?_,Nat.zero_le _,HG.out,HG2.out,HA2.out,HR2.out,fun b hb=>(by cases hb),Zn _⟩;{have:=HW2.out.holds (Zr _ _) (X':=fun b=>(X b∨Qab A0=some b)∨Qab none=some b) (fun b hb=>hb.elim .inl (fun h=>by cases h));simpa using this};{simpa using HD2.out}
  case round =>
   clear HW2 HD2 HA2 HR2 HG HG2;obtain ⟨i,a,L,A1,n1,c1,m,G',n',f',bf',dl',hp',hik,rfl,rfl,hia,rfl,hn1,how,hown,hW,hD,hm,hG,hG2,ha,hr,hng,hsz2⟩:=hrel;have HOW:=Zh how;have HOWN:=Zh hown;have HW:=Zh hW;have HD:=Zh hD;have HG:=Zh hG;have HG2:=Zh hG2;have HA:=Zh ha;have HR:=Zh hr;have HNG:=Zh hng;have HIA:=Zh hia;have HN1:=Zh hn1;have HM:=Zh hm;have HS2:=Zh hsz2;have hlL:=how.len HWY.out HLV.out HLP.out;clear how hown hW hD hG hG2 ha hr hng hia hm hn1;(by_cases hlt:i<k0);rotate_left;{(obtain rfl:i=k0:=by omega);(have j2:¬((i:Int)<i):=by omega);have HP:=Zh (HOW.out.fin (by rw [HK0.out]));clear hlL;(go_wp2_with fail);refine bodyPost_ret (v:=.tuple #[.slice A1 n1 c1,.bool true]) (by simp [results,results65,go_sem]) rfl ?_;have hl1:=HP.out.len.1;have hlo:=HOWN.out.lt;refine ⟨A1,n1,c1,m+1,L,G',n',f',bf',dl',hp',rfl,HP.out,HN1.out,?_,?_,?_,HG.out,HG2.out,HA.out,HOWN.out.rds.rdI.ownM,fun b hb=>?_,HOWN.out.cap,HOWN.out.capMax⟩;{have h1:=HM.out;have h2:=HJ.out;subst h2;rw [show k+1+1=(k+1)+1 from rfl,Nat.add_mul];omega};{have:=HW.out.holds (Zr _ _) (X':=fun b=>X b∨Qab A1=some b) (fun b hb=>.inl (hb.elim (fun h=>.inl (.inl h)) .inr));rw [show R+((m+1:Nat):Int)=R+1+m by omega,show Lp+((m+1:Nat):Int)=Lp+1+m by omega];exact this};{rw [show R+((m+1:Nat):Int)=R+1+m by omega];exact HD.out};{have:=(hlo b hb).1;have:=HS02.out;omega}};obtain ⟨b0,o0,zb,rfl,hzb,cO1⟩:=(HR.out.le (Qau _ _)).at_ hlt;obtain ⟨b,hbs⟩:∃ b,bs[i]?=some b:=⟨_,Zg (by rw [HK0.out];exact hlt)⟩;have hzb2:zb=(b:Int):=by{have:=Qdo hbs;rw [hzb] at this;exact Yv this};subst hzb2;obtain ⟨y,pr,c',hy,hcy,hpr,hlp⟩:=HKD.out bs cs i a b HWY.out HIA.out hbs;have hb1:=HBD.out;have hm5:m≤98304:=by{have h1:=HM.out;have h2:(k+1)*L.length≤6*16384:=Nat.mul_le_mul (by have:=HJ.out;omega) (by omega);omega};(have hkJ:=HJ.out;have hkK:=HK1.out;have HCA:=Zh (HIH.out wr G' _ n' f' bf' dl' hp' (R+1+m) (Lp+1+m) a b c' pr HW.out hlp HD.out (by omega) (by omega) (by omega) (by omega));have HY:=Zh hy;have HCY:=Zh hcy;have HPR:=Zh hpr;have HBS:=Zh hbs;have j0:0≤(i:Int):=by omega);(have j1:(i:Int)<k0:=by omega);have HSZW:=Zh HA.out.size;clear hy hcy hpr hlp hb1 hm5 hkJ hkK hzb hbs;(go_wp2_with fail);(with_reducible refine HCA.out.mono ?_);(rintro e w4 ⟨A2,k2,c2,m2,L2,G3,n3,f3,bf3,dl3,hp3,rfl,hop,hk2,hm2,hW4,hD4,hG4,hG5,ha4,hr4,hn4,_⟩;have HOP:=Zh hop;have HK2:=Zh hk2;have HM2:=Zh hm2;have HW4:=Zh hW4;have HD4:=Zh hD4;have HG4:=Zh hG4;have HG5:=Zh hG5;have HA4:=Zh ha4;have HR4:=Zh hr4;have HN4:=Zh hn4;have hL2:=hop.len.2;have hown4:=HOWN.out.keepK ha4.kept (fun q hq=>.inr (.inr hq));have hrd4:Rds w4 1 A2 k2 (Qag (nis L2)):=(hr4.le (Qau _ _)).rdsI;have hsz4:w2.heap.size≤w4.heap.size:=Yx HS2.out ha4.size;clear hop hk2 hm2 hW4 hD4 hG4 hG5 ha4 hr4 hn4 cO1;have hk2':k2≤16384:=by rw [HK2.out];omega);(have hn1':n1≤16384:=by rw [HN1.out];omega);(go_wp2_with (at_builtin;with_reducible refine Qal rfl (.tmp 57) (.tmp 58) 61 rfl 3 _ 1 8 Qbo underlying61 rfl (by omega) rfl rfl hown4 hrd4 (Qao _) (by omega) (by omega) hsz4 ?_));intro A3 c3 w5 ho5 hg5 hat5;have HO5:=Zh ho5;have hlt4:=hown4.lt;have hlt5:=ho5.lt
   have HX5:=Zh (HW4.out.grow (X':=fun q=>(X q∨Qab (some ⟨b0,o0,none⟩)=some q)∨Qab A3=some q) hg5 (fun q hq=>⟨.inl (.inr hq),fun hg=>(HG5.out q hg).elim (HNG.out q hq) (fun h=>by have:=(HOWN.out.lt q hq).2;omega)⟩) (fun q hq=>by
    rcases hq with h1|h1
    · exact .inl (.inl (.inl h1))
    · rcases hat5 with h2|h2
      · exact .inl (.inl (.inr (h2▸h1)))
      · have h3:=(hlt5 q h1).2
        rw [h2] at h1
        cases h1
        exact .inr ⟨Zn _,h3⟩))
   have HA5:=Zh ((HA.out.trans (HA4.out.less (fun q hq=>hq.elim (fun h=>.inl (HG.out q h)) (fun h=>.inr (.inl (.inl h)))))).trans (Aft.grown hg5 (fun q hq hK=>by
    have h1:=(hlt4 q hq).1;have h2:=HGL.out q hK;have h3:=HS02.out;omega) (fun q hq=>by have h1:=HGL.out q hq;have h2:=HA.out.size;have h3:=HA4.out.size;omega)))
   have HNG5:=Zh (show ∀ q,Qab A3=some q→¬G3 q from fun q hq hg=>by
    rcases hat5 with h2|h2
    · rw [h2] at hq
      exact (HG5.out q hg).elim (HNG.out q hq) (fun h=>by have:=(HOWN.out.lt q hq).2;omega)
    · rw [h2] at hq
      cases hq
      have:=HW4.out.gl _ (.inl hg);omega)
   have HR5:=Zh ((HR.out.le (Qaz.msk (HA4.out.kept.mono (fun q hq=>.inr (.inl (.inr hq)))))).le (Qaz.msk (Qaz.grown hg5 (fun q hq e=>by
    have h1:=(hlt4 q e).1;have h2:=HA0L.out q hq;omega))))
   have HNX:=Zh (HOW.out.next HLV.out HLP.out HWY.out (by rw [HK0.out];exact hlt) HIA.out HBS.out HY.out HPR.out (by rw [HCY.out];exact HOP.out));have hs5:=hg5.size;clear hown4 hrd4 ho5 hg5 hat5 hlt4 hlt5;(go_wp2_with fail);go_roundw;(case rel =>refine ⟨i+1,b,L ++L2,A3,n1+k2,c3,m+m2,G3,n3,f3,bf3,dl3,hp3,by omega,by go_num,rfl,by rw [List.getElem?_cons_succ];exact HBS.out,rfl,by rw [Yp,HN1.out,HK2.out],HNX.out,?_,?_,?_,?_,fun q hq=>HG4.out q (HG.out q hq),fun q hq=>?_,HA5.out,HR5.out,HNG5.out,by omega⟩;{rw [Qfy,Qbg];exact HO5.out};{rw [show R+1+((m+m2:Nat):Int)=R+1+m+m2 by omega,show Lp+1+((m+m2:Nat):Int)=Lp+1+m+m2 by omega];exact HX5.out};{rw [show R+1+((m+m2:Nat):Int)=R+1+m+m2 by omega];exact HD4.out};{have h1:=HM.out;have h2:=HM2.out;rw [HK1.out] at h2;rw [Yp,Nat.mul_add];omega};{(rcases HG5.out q hq with h1|h1);{exact HG2.out q h1};{have:=HSZW.out;exact .inr (by omega)}});case measure=>simp [intOf];omega
def Qjv (N:Qam)(s t:Nat)(v:Int):Prop:=(wV N s=1152921504606846976∧v=1152921504606846976)∨(wV N s≠1152921504606846976∧Lst (Rch (StW N) s t) v)
inductive Qwa (N:Qam) (ls:List (List Int)) (av:List Int):Nat→Int→List (Nat×Nat)→Nat→Int→Prop
 | nil {p:Nat} {c:Int}:Qwa N ls av p c [] p c
 | cons {p q t:Nat} {c d v:Int} {hs:List (Nat×Nat)}:HSt N ls av p q d→Qwa N ls av q (c+d) hs t v→Qwa N ls av p c ((p,q)::hs) t v
section
variable {N:Qam} {ls:List (List Int)} {av:List Int} {s p q t:Nat} {c d v:Int} {hs hs':List (Nat×Nat)} {l m:List Nat}
theorem HopP.then_ (h:HopP N ls av s p c hs)(g:Qwa N ls av p c hs' t v):Qwa N ls av s 0 (hs ++hs') t v:=by
 induction h generalizing hs' with
 | start=>exact g
 | @step p q c d hs _ h2 ih =>rw [List.append_assoc];exact ih (.cons h2 g)
theorem HopP.hopC (h:HopP N ls av s t v hs):Qwa N ls av s 0 hs t v:=by have:=h.then_ .nil;rwa [List.append_nil] at this
theorem Opn.row {mk:List Bool}(h:Opn N mk p q v l){z:Tri} (hz:N.ar[q]?=some z) (hw:z.2.2≠1152921504606846976):Qed (StW N) p q (v+z.2.2) l:=by obtain ⟨⟨r,c,e,l',h1,h2,rfl,rfl⟩,_⟩:=h;rw [show c+e+z.2.2=c+(e+z.2.2) by omega];exact (h1.mono (fun _ _ _ h=>h.all)).step ⟨z,hz,h2.1,hw,by rw [h2.2]⟩
theorem HSt.lp (h:HSt N ls av p q d){j:Nat} (hj:Qhh ls (toV N p) av=j+1):∃ (l:List Int) (y z:Tri) (v:Int),ls[j]?=some l∧N.ar[p]?=some y∧N.ar[q]?=some z∧Qgz N l (Qaa l y.2.1) p q v∧z.2.2≠1152921504606846976∧d=v+z.2.2:=by
 rcases h with ⟨h0,_⟩|⟨j',l,y,z,v,h1,h2,h3,h4,h5,h6,h7,h8,h9,h10,h11⟩
 {omega};{(obtain rfl:j=j':=by omega);exact ⟨l,y,z,v,h2,h3,h4,⟨⟨y,h3,h5,rfl⟩,⟨z,h4,h6,h7⟩,h9,h10⟩,h8,h11⟩}
theorem HSt.flat (h:HSt N ls av p q d) (hj:Qhh ls (toV N p) av=0):StW N p q d:=by
 rcases h with ⟨_,h1⟩|⟨j',l,y,z,v,h1,_⟩
 {exact h1};{omega}
structure PthP (N:Qam) (s t:Nat) (K:Nat) (v:Int) (L:List Nat) (k:Int):Prop where
 dist:Qjv N s t v
 row:v≠1152921504606846976→∃ l,L=s::l∧Qed (StW N) s t v l∧l.length≤268435456
 none_:v=1152921504606846976→L=[]∧k=0
 k0:0≤k
 kb:k≤(K:Int)*L.length
theorem Qed.at_ {St:Qbf}(h:Qed St s t v l):∀ (i:Nat) (a:Nat),(s::l)[i]?=some a→∃ c1 c2,Qed St s a c1 (l.take i)∧Qed St a t c2 (l.drop i)∧v=c1+c2:=by
 induction h with
 | start =>
  intro i a ha
  cases i with
  | zero=>cases ha;exact ⟨0,0,.start,.start,rfl⟩
  | succ i=>simp at ha
 | @step p q c d l h1 h2 ih =>
  intro i a ha;rcases Nat.lt_or_ge i (l.length+1) with hi|hi
  {rw [←List.cons_append,Yc (by simpa using hi)] at ha;obtain ⟨c1,c2,g1,g2,rfl⟩:=ih i a ha;refine ⟨c1,c2+d,?_,?_,by omega⟩;{rw [List.take_append_of_le_length (by omega)];exact g1};{rw [List.drop_append_of_le_length (by omega)];exact g2.step h2}};{have h3:=(Zs ha).1;(simp only [List.length_cons,Yp,List.length_nil] at h3;obtain rfl:i=l.length+1:=by omega);rw [List.getElem?_cons_succ,Yb (Zn _),Yy] at ha;cases ha;refine ⟨c+d,0,?_,?_,by omega⟩;{rw [Ye (by simp)];exact h1.step h2};{rw [List.drop_of_length_le (by simp)];exact .start}}
end
end Go.Proofs.YtdheeddnkdhfeaaGreatDoor
namespace Go.Proofs.YtdheeddnkdhfeaaGreatDoor
open Go.RowKit Go.Extern.Stop Go.Stop Go.Extern Go.Proofs.Tryz
abbrev Qpb (c:Int):Value:=.iface 131 (.int .i64 c)
abbrev fltV (b o:Nat):Value:=.iface 146 (.pointer (some ⟨b,o,none⟩))
def Qcj (w:World):Value→List (ByteArray×Int)→Int→Prop
 | v,[],c=>v=Qpb c
 | v,p::ps,c=>∃ b o u,v=fltV b o∧w.cell? ⟨b,o,none⟩=some (.string p.1)∧w.cell? ⟨b,o+1,none⟩=some (.int .i64 p.2)∧w.cell? ⟨b,o+2,none⟩=some u∧Qcj w u ps c
theorem Qcj.below {w w':World}(hb:Below w.heap.size w w'):∀ {ps:List (ByteArray×Int)} {v:Value} {c:Int},Qcj w v ps c→Qcj w' v ps c
 | [],_,_,h=>h
 | _::_,_,_,h=>by obtain ⟨b,o,u,h1,h2,h3,h4,h5⟩:=h;exact ⟨b,o,u,h1,Zc hb (Zn _) h2,Zc hb (Zn _) h3,Zc hb (Zn _) h4,Qcj.below hb h5⟩
/-! closed facts -/
theorem Qxc (v:Value)(w:World):(ReflectliteType.typeOf #[.iface 131 v]).run prog w=.ok (.iface 281 (.agg #[.pointer (some ⟨1,131,none⟩)])) w:=by kernel_rfl
def erComp : Array Value → Sem Value := ReflectliteType.method fun t => do Rtype.noPackHeld "Comparable" t; pure (.bool (← typeInfo t).comparable)
theorem Qng (w:World):(erComp #[.agg #[.pointer (some ⟨1,131,none⟩)]]).run prog w=.ok (.bool true) w:=by kernel_rfl
theorem Qlr (v : Value) (w : World) : (Go.method 463 281 v "Comparable").run Tryz.prog w = .ok (242, v) w := by kernel_rfl
theorem er_noIs (v:Value)(xT:TypeId)(w:World):(Instr.typeAssert (.iface 131 v) xT 283 true).run prog w=.ok (.tuple #[.nilIface,.bool false]) w:=run_typeAssert_lacksB underlying283 (by kernel_rfl) (by kernel_rfl) v xT w
theorem er_noIsF (v:Value)(xT:TypeId)(w:World):(Instr.typeAssert (.iface 146 v) xT 283 true).run prog w=.ok (.tuple #[.nilIface,.bool false]) w:=run_typeAssert_lacksB underlying283 (by kernel_rfl) (by kernel_rfl) v xT w
theorem Qrc (v:Value)(xT:TypeId)(w:World):(Instr.typeAssert (.iface 131 v) xT 286 true).run prog w=.ok (.tuple #[.nilIface,.bool false]) w:=run_typeAssert_lacksB underlying286 (by kernel_rfl) (by kernel_rfl) v xT w
theorem Qpa (v:Value)(xT:TypeId)(w:World):(Instr.typeAssert (.iface 131 v) xT 288 true).run prog w=.ok (.tuple #[.nilIface,.bool false]) w:=run_typeAssert_lacksB underlying288 (by kernel_rfl) (by kernel_rfl) v xT w
theorem er_noAs (v:Value)(xT:TypeId)(w:World):(Instr.typeAssert (.iface 131 v) xT 293 true).run prog w=.ok (.tuple #[.nilIface,.bool false]) w:=run_typeAssert_lacksB underlying293 (by kernel_rfl) (by kernel_rfl) v xT w
theorem Qnh (v:Value)(xT:TypeId)(w:World):(Instr.typeAssert (.iface 146 v) xT 286 true).run prog w=.ok (.tuple #[.iface 146 v,.bool true]) w:=run_typeAssert_hasB underlying286 (by kernel_rfl) v xT w
theorem Qus (v : Value) (w : World) : (Go.method 463 146 v "Unwrap").run Tryz.prog w = .ok (236, v) w := by kernel_rfl
theorem er_comp:(Tryz.prog.info? 131).map (·.comparable)=some true:=by kernel_rfl
theorem er_eq (a b:Int)(w:World):(binOp .eql 44 (Qpb a) (Qpb b)).run prog w=.ok (.bool (a == b)) w:=Lib.run_eql_iface_int w a b underlying44 er_comp underlying131
theorem er_ne (p:Value)(b:Int)(w:World):(binOp .eql 44 (.iface 146 p) (Qpb b)).run prog w=.ok (.bool false) w:=run_eql_iface_types (P:=prog) 146 131 p (.int .i64 b) underlying44 (by decide) w
theorem Qkb {w:World}{v:Value} {ps:List (ByteArray×Int)} {c:Int} (h:Qcj w v ps c):v=Qpb c∧ps=[]∨∃ b o u p t,v=fltV b o∧ps=p::t∧w.cell? ⟨b,o,none⟩=some (.string p.1)∧w.cell? ⟨b,o+1,none⟩=some (.int .i64 p.2)∧w.cell? ⟨b,o+2,none⟩=some u∧Qcj w u t c:=by
 cases ps with
 | nil=>exact .inl ⟨h,rfl⟩
 | cons p t=>obtain ⟨b,o,u,h1,h2,h3,h4,h5⟩:=h;exact .inr ⟨b,o,u,p,t,h1,rfl,h2,h3,h4,h5⟩
theorem Qbd {w:World}{v:Value} {ps:List (ByteArray×Int)} {c:Int} (h:Qcj w v ps c):∃ t x,v=.iface t x:=by rcases Qkb h with ⟨h,_⟩|⟨b,o,u,p,t,h,_⟩ <;> exact ⟨_,_,h⟩
theorem Qou {w:World}:∀ {ps qs:List (ByteArray×Int)} {v:Value} {c d:Int},Qcj w v ps c→Qcj w v qs d→ps.length=qs.length
 | [],[],_,_,_,_,_=>rfl
 | [],_::_,_,_,_,h,g=>by obtain ⟨b,o,u,h1,_⟩:=g;unfold Qcj at h;rw [h] at h1;cases h1
 | _::_,[],_,_,_,g,h=>by obtain ⟨b,o,u,h1,_⟩:=g;unfold Qcj at h;rw [h] at h1;cases h1
 | _::_,_::_,_,_,_,h,g=>by
  obtain ⟨b,o,u,h1,_,_,h2,h3⟩:=h;obtain ⟨b',o',u',g1,_,_,g2,g3⟩:=g;rw [h1] at g1
  cases g1
  rw [h2] at g2
  cases g2
  simp [Qou h3 g3]
noncomputable def Qjg (w:World) (v:Value):Nat:=by classical exact if h:∃ n c,∃ ps,Qcj w v ps c∧ps.length=n then h.choose else 0
theorem Qqs {w:World} {ps:List (ByteArray×Int)} {v:Value} {c:Int} (h:Qcj w v ps c):Qjg w v=ps.length:=by have hex:∃ n c,∃ ps,Qcj w v ps c∧ps.length=n:=⟨_,c,ps,h,rfl⟩;unfold Qjg;rw [dif_pos hex];obtain ⟨d,qs,g,hl⟩:=hex.choose_spec;rw [←hl];exact Qou g h
theorem Qvw (b o:Nat)(u:Value)(w:World)(h:w.cell? ⟨b,o+2,none⟩=some u) :
 Calls prog 236 #[.pointer (some ⟨b,o,none⟩)] w fun e w'=>e=.returned u∧w'=w:=by
 go_enter func236,ntmps236
 go_wp2;exact Kat
set_option maxHeartbeats 1000000 in
theorem is_loop (v:Value) (ps:List (ByteArray×Int)) (c:Int) (w:World) (h:Qcj w v ps c) :
 Calls prog 122 #[v,Qpb c,.bool true] w fun e w'=>e=.returned (.bool true)∧w'=w:=by
 have nE:=er_noIs;have nF:=er_noIsF;have uF:=Qnh;have mU:=Qus;have heq:=er_eq;have hne:=er_ne;have hCL:∀ (ps:List (ByteArray×Int)) (v:Value) (c:Int),Qcj w v ps c→Qjg w v=ps.length:=fun _ _ _ h=>Qqs h
 have HCL:=Zh hCL;clear hCL;have HU:∀ (b o:Nat) (u:Value),w.cell? ⟨b,o+2,none⟩=some u→Calls prog 236 #[.pointer (some ⟨b,o,none⟩)] w fun e w'=>e=.returned u∧w'=w:=fun b o u h=>Qvw b o u w h
 have HU':=Zh HU;clear HU;go_enter func122,ntmps122
 go_wp2;go_loop [0] (fun i=>∃ qs,Qcj w i qs c) (fun i=>Qjg w i)
 case atStart=>exact ⟨ps,h⟩
 case round =>
  obtain ⟨qs,hq⟩:=hrel;rcases Qkb hq with ⟨rfl,rfl⟩|⟨b,o,u,p,t,rfl,rfl,h1,h2,h3,h4⟩
  {clear hq h;go_wp2;exact Kat};{obtain ⟨tu,xu,rfl⟩:=Qbd h4;have e1:=HCL.out _ _ _ hq;have e2:=HCL.out _ _ _ h4;have E1:=Zh e1;clear e1;have E2:=Zh e2;clear e2;have H4:=Zh h4;clear h4;have h3':=h3;clear hq h;(go_wp2_with (go_at_call 236;refine (HU'.out b o _ h3).mono ?_;rintro e w' ⟨rfl,rfl⟩));(go_round);(case rel=>exact ⟨t,H4.out⟩);case measure=>rw [E1.out,E2.out];simp}
set_option maxHeartbeats 1000000 in
theorem errorsIs (v:Value) (ps:List (ByteArray×Int)) (c:Int) (w:World) (h:Qcj w v ps c) :
 Calls prog 70 #[v,Qpb c] w fun e w'=>e=.returned (.bool true)∧w'=w:=by
 have h10:=@run_callFunc_extern prog 121 _ ReflectliteType.typeOf func121 (by kernel_rfl) (by kernel_rfl) (by kernel_rfl) (by kernel_rfl);have h32:=@run_callFunc_extern prog 242 _ erComp func242 (by kernel_rfl) (by kernel_rfl) (by kernel_rfl) (by kernel_rfl);have tT:=Qxc;have cT:=Qng;have mR:=Qlr;have HL:=Zh (is_loop v ps c w h);obtain ⟨tv,xv,rfl⟩:=Qbd h;clear h;go_enter func70,ntmps70
 go_wp2_with (go_at_call 122;refine (HL.out).mono ?_;rintro e w' ⟨rfl,rfl⟩)
 exact Kat
end Go.Proofs.YtdheeddnkdhfeaaGreatDoor
namespace Go.Proofs.YtdheeddnkdhfeaaGreatDoor
open Go.RowKit Go.Proofs.Tryz
def RdW (w:World)(A:Option Addr)(n:Nat) (l:List (ByteArray×Int)):Prop :=
 l.length=n∧∀ i x,l[i]?=some x→∃ b o,A=some ⟨b,o,none⟩∧w.cell? ⟨b,o+i*2,none⟩=some (.string x.1)∧w.cell? ⟨b,o+i*2+1,none⟩=some (.int .i64 x.2)
theorem RdW.below {w w':World}{A:Option Addr}{n:Nat} {l:List (ByteArray×Int)} (h:RdW w A n l) (hb:Below w.heap.size w w'):RdW w' A n l :=
 ⟨h.1,fun i x hx=>by obtain ⟨b,o,e,hc,hd⟩:=h.2 i x hx;exact ⟨b,o,e,Zc hb (Zn _) hc,Zc hb (Zn _) hd⟩⟩
def Wrg (w:World)(v:Value) (ps:List (ByteArray×Int)) (c:Int):Prop:=∃ A n m,v=.agg #[.slice A n m,.int .i64 c]∧RdW w A n ps∧n≤1000000
theorem Qyx (s:ByteArray)(k c:Int)(w:World):Calls prog 27 #[.string s,.int .i64 k,.int .i64 c] w fun e w'=>∃ v,e=.returned v∧Wrg w' v [(s,k)] c∧Below w.heap.size w w':=by
 go_enter func27,ntmps27
 go_wp2;refine bodyPost_ret (v:=.agg #[.slice (some ⟨w.heap.size+1,0,none⟩) 1 1,.int .i64 c]) (by simp [results,results27,go_sem]) rfl ?_;refine ⟨_,rfl,⟨_,1,1,rfl,⟨rfl,fun i x hx=>?_⟩,by omega⟩,Qah⟩
 match i,hx with
 | 0,hx=>cases hx;exact ⟨_,_,rfl,by simp,by simp⟩
 | i+1,hx=>simp at hx
attribute [local go_sem ↓] Go.wp_at_zero Go.wp_at_succ
def Qme (m NC S:Nat)(s t:Int):Option (Int×Int):=if s<0∨(m:Int)≤s then some (0,5) else if t<0∨(m:Int)≤t then some (1,5) else if NC≠S then some (2,1) else none
def Qju (w:World) (b:Option (Int×Int)) (e:Ending) (w':World):Prop:=(match b with|none=>e=.returned .nilIface|some (k,c)=>∃ v,e=.returned v∧Qcj w' v [((⟨#[97,115,107]⟩:ByteArray),k)] c)∧Below w.heap.size w w'
set_option maxHeartbeats 1000000 in
theorem Qjz (w:World)(g o:Nat)(N:Qam) (ls:List (List Int)) (CA:Option Addr) (NC cC S:Nat) (s t:Int) (hg:Qfh w g N) (ho:Qgh w o N.ar ls) (hS:S=Qbw (Qae N.ar ls)) (hS2:S≤1000000000) :
 Calls prog 45 #[.pointer (some ⟨g,0,none⟩),.pointer (some ⟨o,0,none⟩),.slice CA NC cC,.int .i64 s,.int .i64 t] w (Qju w (Qme N.ar.length NC S s t)):=by
 obtain ⟨m,hmm⟩:=Zx N.ar.length;have HGA:=Zh (show Calls prog 99 #[.pointer (some ⟨g,0,none⟩)] w fun e w'=>e=.returned (.int .i64 m)∧w=w' from by rw [hmm];exact Qgk g N w hg);have HSZ:=Zh (show Calls prog 48 #[.pointer (some ⟨o,0,none⟩)] w fun e w'=>e=.returned (.int .i64 (S:Nat))∧w=w' from by rw [hS];exact Qic o N.ar ls w ho);rw [←hmm];clear hg ho hS hmm;unfold Qme;by_cases i1:s<0
 {rw [if_pos (.inl i1)];exact Kap};have i1':¬s<0:=i1
 by_cases i2:(m:Int)≤s;{rw [if_pos (.inr i2)];exact Kap};rw [if_neg (by omega)];by_cases i3:t<0
 {rw [if_pos (.inl i3)];exact Kap};by_cases i4:(m:Int)≤t;{rw [if_pos (.inr i4)];exact Kap};rw [if_neg (by omega)];by_cases i5:NC=S;{rw [if_neg (fun h=>h i5)];unfold Qju;subst i5;(go_enter func45,ntmps45);(go_wp2_with fail);(with_reducible refine HGA.out.mono ?_);rintro r w' ⟨rfl,rfl⟩;(go_wp2_with fail);(with_reducible refine HSZ.out.mono ?_);rintro r w' ⟨rfl,rfl⟩;(go_wp2_with fail);go_ret;exact ⟨rfl,Zr _ _⟩};{rw [if_pos i5];(unfold Qju;have i6:¬(NC:Int)=S:=by omega);(go_enter func45,ntmps45);(go_wp2_with fail);(with_reducible refine HGA.out.mono ?_);rintro r w' ⟨rfl,rfl⟩;(go_wp2_with fail);(with_reducible refine HSZ.out.mono ?_);rintro r w' ⟨rfl,rfl⟩;(go_wp2_with fail);go_ret;refine ⟨⟨_,rfl,w.heap.size,0,Qpb 1,rfl,?_,?_,?_,rfl⟩,Qah⟩;all_goals simp}
theorem Qjv.uniq {N:Qam}{s t:Nat}{a b:Int}(h:Qjv N s t a)(g:Qjv N s t b):a=b:=by
 rcases h with ⟨h1,h2⟩|⟨h1,h2⟩ <;> rcases g with ⟨g1,g2⟩|⟨g1,g2⟩
 {rw [h2,g2]};{exact absurd h1 g1};{exact absurd g1 h1};{exact h2.uniq g2}
theorem RunP.dist {N:Qam} {ls:List (List Int)} {cl:List Int} {s t:Nat} {v:Int} {hs:List (Nat×Nat)} {xs:Tri} (h:RunP N ls [toV N s,frV N t] s t v hs) (hok:Qap N) (hP:Qat N.vs.length ls) (hA:Qct N ls cl) (hs:N.ar[s]?=some xs):Qjv N s t v:=by
 rcases h with ⟨h1,h2,_⟩|⟨h1,h2,_⟩
 {exact .inl ⟨h1,h2⟩};{exact .inr ⟨h1,Qvb hok hP (hA.ex hok hP) ⟨_,hs⟩ (by simp) (by simp) h2⟩}
section
variable (w:World) (g o:Nat) (N:Qam) (ls:List (List Int)) (CA:Option Addr) (NC cC S:Nat) (cl:List Int)
theorem askDist_ok (s t:Nat)(xs xt:Tri)(hg:Qfh w g N)(ho:Qgh w o N.ar ls)(hc:RdI w CA NC cl)(hok:Qap N)(hP:Qat N.vs.length ls)(hA:Qct N ls cl)(hcc:NC≤cC∧cC≤9223372036854775807) (hSm:Qbw (Qae N.ar ls)≤1000000000) (hxs:N.ar[s]?=some xs) (hxt:N.ar[t]?=some xt) :
 Calls prog 13 #[.pointer (some ⟨g,0,none⟩),.pointer (some ⟨o,0,none⟩),.slice CA NC cC,.int .i64 s,.int .i64 t] w fun e w'=>(∃ v,e=.returned (.tuple #[.int .i64 v,.nilIface])∧Qjv N s t v)∧Below w.heap.size w w':=by
 have hsn:=(Zs hxs).1;have htn:=(Zs hxt).1;have hNS:NC=Qbw (Qae N.ar ls):=by rw [←hc.1,hA.1]
 have HCK:=Zh (Qjz w g o N ls CA NC cC _ s t hg ho rfl hSm);rw [show Qme N.ar.length NC (Qbw (Qae N.ar ls)) s t=none by unfold Qme;rw [if_neg (by omega),if_neg (by omega),if_neg (by omega)]] at HCK;have HNQ:=Zh (fun V (hV:Below w.heap.size w V)=>Qkn V g o N ls s t CA NC cC cl (hg.below hV) (ho.below hV) (hc.below hV) hok hP);have HRN:=Zh (fun (V:World) (qb:Nat) (Q:Option Addr) (L cq mb bb B:Nat) h hm hB hBB=>run_ok V qb g o N ls s t CA NC cC cl Q L cq mb bb N.ar.length B xs xt h hm hB hok hP hA hcc hSm hxs hxt rfl hBB);have HDP:=Zh (fun v hs (h:RunP N ls [toV N s,frV N t] s t v hs)=>h.dist hok hP hA hxs);clear hg ho hc hok hP hA hcc hSm hxs hxt hsn htn hNS;go_enter func13,ntmps13
 go_wp2_with fail
 with_reducible refine HCK.out.mono ?_
 rintro r w1 ⟨rfl,hb1⟩;have HB1:=Zh hb1;have HQN:=Zh (HNQ.out w1 hb1);clear hb1;go_wp2_with fail
 with_reducible refine HQN.out.mono ?_
 rintro r w2 ⟨qb,Q,cq,mb,bb,rfl,hq,hm,hB,⟨m1,m2,m3⟩,hb2⟩;have HR2:=Zh (HRN.out w2 qb Q ls.length cq mb bb w.heap.size hq hm hB ⟨Yx HB1.out.size m1,Yx HB1.out.size m2,m3⟩);have HB2:=Zh (Zb HB1.out hb2);clear hq hm hB m1 m2 m3 hb2;go_wp2_with fail
 with_reducible refine HR2.out.mono ?_
 rintro r w3 ⟨⟨v,A,n,c,hs,rfl,hr,_,_,_⟩,hb3⟩;have HV:=Zh (HDP.out v hs hr);have HB3:=Zh (HB2.out.trans hb3);clear hr hb3;go_wp2_with fail
 refine bodyPost_ret (v:=.tuple #[.int .i64 v,.nilIface]) (by simp [results,results13,go_sem]) rfl ?_;exact ⟨⟨v,rfl,HV.out⟩,HB3.out⟩
def SrcP (w':World)(N:Qam) (ls:List (List Int)) (s t:Nat) (e:Ending):Prop:=∃ v A n c hs,e=.returned (.tuple #[.agg #[.int .i64 v,.slice A n c],.nilIface])∧Qjv N s t v∧RunP N ls [toV N s,frV N t] s t v hs∧RdH w' A n (hs.map (Qsy N ls [toV N s,frV N t]))∧n≤16384
theorem RdH.far {w:World}{A:Option Addr}{n g i:Nat}{L:List Qsm}(h:RdH w A n L)(hg:∀ b,Qab A=some b→b≠g)(v:Value):RdH (w.setCell ⟨g,i,none⟩ v) A n L :=
 ⟨h.1,fun k x hx=>by
  obtain ⟨b,o,e,h1,h2,h3⟩:=h.2 k x hx;have hb:=hg b (by rw [e];rfl);refine ⟨b,o,e,?_,?_,?_⟩ <;> rw [World.cell?_setCell_other _ _ _ _ (by intro h;simp only [Addr.mk.injEq] at h;omega)] <;> assumption⟩
theorem Qos (s t:Nat)(xs xt:Tri)(hg:Qfh w g N)(ho:Qgh w o N.ar ls)(hc:RdI w CA NC cl)(hok:Qap N)(hP:Qat N.vs.length ls)(hA:Qct N ls cl)(hcc:NC≤cC∧cC≤9223372036854775807) (hSm:Qbw (Qae N.ar ls)≤1000000000) (hxs:N.ar[s]?=some xs) (hxt:N.ar[t]?=some xt) :
 Calls prog 32 #[.pointer (some ⟨g,0,none⟩),.pointer (some ⟨o,0,none⟩),.slice CA NC cC,.int .i64 s,.int .i64 t] w fun e w'=>SrcP w' N ls s t e∧Below w.heap.size w w':=by
 have hsn:=(Zs hxs).1;have htn:=(Zs hxt).1;have hNS:NC=Qbw (Qae N.ar ls):=by rw [←hc.1,hA.1]
 have HCK:=Zh (fun V (hV:Below w.heap.size w V)=>Qjz V g o N ls CA NC cC _ s t (hg.below hV) (ho.below hV) rfl hSm);rw [show Qme N.ar.length NC (Qbw (Qae N.ar ls)) s t=none by unfold Qme;rw [if_neg (by omega),if_neg (by omega),if_neg (by omega)]] at HCK;have HNQ:=Zh (fun V (hV:Below w.heap.size w V)=>Qkn V g o N ls s t CA NC cC cl (hg.below hV) (ho.below hV) (hc.below hV) hok hP);have HRN:=Zh (fun (V:World) (qb:Nat) (Q:Option Addr) (L cq mb bb B:Nat) h hm hB hBB=>run_ok V qb g o N ls s t CA NC cC cl Q L cq mb bb N.ar.length B xs xt h hm hB hok hP hA hcc hSm hxs hxt rfl hBB);have HDP:=Zh (fun v hs (h:RunP N ls [toV N s,frV N t] s t v hs)=>h.dist hok hP hA hxs);clear hg ho hc hok hP hA hcc hSm hxs hxt hsn htn hNS;go_enter func32,ntmps32
 go_wp2_with fail
 (refine Qac ?_;intro w0 hw0);have hb0:Below w.heap.size w w0:=by rw [hw0];exact Qah
 have hF0:Blk w0 w.heap.size 91 #[.int .i64 0,.slice none 0 0]:=by rw [hw0];exact Blk.new _ _ _
 clear hw0;with_reducible refine (HCK.out w0 hb0).mono ?_
 rintro r w1 ⟨rfl,hb1⟩;have HF1:=Zh (hF0.below hb1 hF0.lt);have HB1:=Zh (Zb hb0 hb1);have HQN:=Zh (HNQ.out w1 HB1.out);clear hb1 hb0 hF0;go_wp2_with fail
 with_reducible refine HQN.out.mono ?_
 rintro r w2 ⟨qb,Q,cq,mb,bb,rfl,hq,hm,hB,⟨m1,m2,m3⟩,hb2⟩;have HF2:=Zh (HF1.out.below hb2 HF1.out.lt);have HZ:=Zh (show w1.heap.size≤mb∧w1.heap.size≤bb from ⟨m1,m2⟩);have HR2:=Zh (HRN.out w2 qb Q ls.length cq mb bb w1.heap.size hq hm hB ⟨m1,m2,m3⟩);have HB2:=Zh (Zb HB1.out hb2);have HS2:=Zh hb2.size;clear hq hm hB m1 m2 m3 hb2;go_wp2_with fail
 with_reducible refine HR2.out.mono ?_
 rintro r w3 ⟨⟨v,A,n,c,hs,rfl,hr,hh,hn,hlo⟩,hb3⟩;have HV:=Zh (HDP.out v hs hr);have HR:=Zh hr;have hF3:Blk w3 w.heap.size 91 #[.int .i64 0,.slice none 0 0]:=HF2.out.below hb3 HF1.out.lt;have HB3:=Zh (HB2.out.trans (hb3.mono HB1.out.size));have HLO:=Zh (show ∀ b,Qab A=some b→b≠w.heap.size from fun b hb e=>by have:=hlo b hb;have:=HS2.out;have:=HF1.out.lt;omega);obtain ⟨c0,c1,f0,f1⟩:=hF3.two;have HH:=Zh ((hh.far (i:=0) HLO.out (.int .i64 v)).far (i:=1) HLO.out (.slice A n c));have HBB:=Zh ((HB3.out.setCell (p:=⟨w.heap.size,0,none⟩) (Zn _) (.int .i64 v)).setCell (p:=⟨w.heap.size,1,none⟩) (Zn _) (.slice A n c));clear hr hb3 hh hlo hF3;go_wp2_with fail
 refine bodyPost_ret (v:=.tuple #[.agg #[.int .i64 v,.slice A n c],.nilIface]) (by simp [results,results32,go_sem,c0,c1]) rfl ?_;exact ⟨⟨v,A,n,c,hs,rfl,HV.out,HR.out,HH.out,hn⟩,HBB.out⟩
end
theorem Qjv.fin {N:Qam}(hok:Qap N){s t:Nat}{v:Int}(h:Qjv N s t v)(hv:v≠1152921504606846976):0≤v∧v≤70373039144960:=by
 rcases h with ⟨_,h2⟩|⟨_,⟨h2,h3⟩|⟨h2,_⟩⟩
 {exact absurd h2 hv};{obtain ⟨e,he,hb⟩:=Qyw hok h2;have:=h3 e he;unfold MB at hb;exact ⟨h2.pos (fun p q d h=>(h.bd hok).1),by omega⟩};{exact absurd h2 hv}
theorem RunP.hopC {N:Qam} {ls:List (List Int)} {av:List Int} {s t:Nat} {v:Int} {hs:List (Nat×Nat)} (h:RunP N ls av s t v hs) (hv:v≠1152921504606846976):Qwa N ls av s 0 hs t v:=by
 rcases h with ⟨_,h2,_⟩|⟨_,_,⟨h3,_⟩|h3⟩
 {exact absurd h2 hv};{exact absurd h3 hv};{exact h3.hopC}
theorem Qwa.next {N:Qam} {ls:List (List Int)} {av:List Int} {p t i:Nat} {c v:Int} {hs:List (Nat×Nat)} (h:Qwa N ls av p c (hs.drop i) t v) (hi:i<hs.length):∃ q d,hs[i]?=some (p,q)∧HSt N ls av p q d∧Qwa N ls av q (c+d) (hs.drop (i+1)) t v:=by
 rw [List.drop_eq_getElem_cons hi] at h;generalize hx:hs[i]=x at h
 cases h with
 | @cons _ q _ _ d _ _ h1 h2=>exact ⟨q,d,by rw [Zg hi,hx],h1,h2⟩
def PtR (B:Nat)(N:Qam) (ls:List (List Int)) (s t:Nat) (e:Ending) (w':World):Prop :=
 ∃ (v:Int) (A:Option Addr) (n c:Nat) (L:List Nat) (k:Int),e=.returned (.tuple #[.agg #[.slice A n c,.int .i64 v,.int .i64 k],.nilIface])∧PthP N s t ls.length v L k∧RdI w' A n (nis L)∧n≤1000000000∧n≤c∧c≤9223372036854775807∧∀ q,Qab A=some q→B≤q∧q<w'.heap.size
set_option maxRecDepth 20000 in
set_option maxHeartbeats 4000000 in
theorem Qku (w:World)(g o:Nat)(N:Qam) (ls:List (List Int)) (CA:Option Addr) (NC cC:Nat) (cl:List Int) (s t:Nat) (xs xt:Tri) (hg:Qfh w g N) (ho:Qgh w o N.ar ls) (hc:RdI w CA NC cl) (hok:Qap N) (hP:Qat N.vs.length ls) (hA:Qct N ls cl) (hcc:NC≤cC∧cC≤9223372036854775807) (hSm:Qbw (Qae N.ar ls)≤1000000000) (hxs:N.ar[s]?=some xs) (hxt:N.ar[t]?=some xt) :
 Calls prog 28 #[.pointer (some ⟨g,0,none⟩),.pointer (some ⟨o,0,none⟩),.slice CA NC cC,.int .i64 s,.int .i64 t] w fun e w'=>PtR w.heap.size N ls s t e w'∧Below w.heap.size w w':=by
 have HSR:=Zh (fun V (hV:Below w.heap.size w V)=>Qos V g o N ls CA NC cC cl s t xs xt (hg.below hV) (ho.below hV) (hc.below hV) hok hP hA hcc hSm hxs hxt)
 have HNO:=Zh (fun (V:World) (B0:Nat) (hB:B0≤V.heap.size) (hV:Below w.heap.size w V) (hw:w.heap.size≤B0) =>
  have hle:Le w (msk V (fun b=>b<B0)):=Le.mskBelow hV (fun b hb=>Yu hb hw)
  Qiy V B0 g o N ls CA NC cC cl hB (hg.le hle) (ho.le hle) (hc.le hle) hok hP hA hcc hSm)
 have HFN:=Zh (fun v (h:Qjv N s t v) (hv:v≠1152921504606846976)=>h.fin hok hv);have HOK:=Zh hok;have HPT:=Zh hP;have HSX:=Zh hxs;have HL6:=Zh hP.l6;have hna4:=hok.la;clear hg ho hc hok hP hA hcc hSm hxs hxt;go_enter func28,ntmps28
 go_wp2_with fail
 (refine Qac ?_;intro w0 hw0);have hb0:Below w.heap.size w w0:=by rw [hw0];exact Qah
 have HR0:=Zh (show Blk w0 w.heap.size 80 #[.slice none 0 0,.int .i64 0,.int .i64 0] by rw [hw0];exact Blk.new _ _ _);clear hw0;with_reducible refine (HSR.out w0 hb0).mono ?_
 rintro r w1 ⟨⟨v,A,n,c,hs,rfl,hd,hrun,hh,hn⟩,hb1⟩;have HR1:=Zh (HR0.out.below hb1 HR0.out.lt);have HB1:=Zh (Zb hb0 hb1);have HD:=Zh hd;have HRN:=Zh hrun;have HH:=Zh hh;have HNN:=Zh (show hs.length=n by have:=hh.1;simpa using this);have HRL:=Zh (show w.heap.size<w1.heap.size from HR1.out.lt);clear hb0 hb1 hd hrun hh HR0;by_cases hv:v=1152921504606846976;{subst hv;(have e1:(1152921504606846976:Int)≤1152921504606846976:=by omega);have r0:=HR1.out.three;obtain ⟨c0,c1,c2⟩:=r0;have f0:=HR1.out.frozen 0;have f1:=HR1.out.frozen 1;have f2:=HR1.out.frozen 2;have hrl:=HRL.out;(go_wp2_with fail);(obtain ⟨w2,hw2⟩:∃ W,W=(((w1.setCell ⟨w.heap.size,0,none⟩ (.slice none 0 0)).setCell ⟨w.heap.size,1,none⟩ (.int .i64 1152921504606846976)).setCell ⟨w.heap.size,2,none⟩ (.int .i64 0)).alloc (.cells #[.int .i64 1152921504606846976,.slice A n c] 91):=⟨_,rfl⟩;rw [←hw2];have hb3:=Zi (o:=2) (u:=.int .i64 0) (Zi (o:=1) (u:=.int .i64 1152921504606846976) (Zi (o:=0) (u:=.slice none 0 0) HB1.out (Zn _)) (Zn _)) (Zn _);have hb2:Below w.heap.size w w2:=by rw [hw2];exact hb3.alloc hb3.size _);(have hr2:Blk w2 w.heap.size 80 #[.slice none 0 0,.int .i64 1152921504606846976,.int .i64 0]:=by rw [hw2];exact (((HR1.out.set_ 0 _).set_ 1 _).set_ 2 _).alloc _);obtain ⟨k0,k1,k2⟩:=hr2.three;clear hw2 c0 c1 c2 f0 f1 f2;refine bodyPost_ret (v:=.tuple #[.agg #[.slice none 0 0,.int .i64 1152921504606846976,.int .i64 0],.nilIface]) (by simp [results,results28,go_sem,k0,k1,k2]) rfl ?_;exact ⟨⟨_,none,0,0,[],0,rfl,⟨HD.out,fun e=>absurd rfl e,fun _=>⟨rfl,rfl⟩,by omega,by simp⟩,⟨rfl,fun i x h=>by simp [nis] at h⟩,by omega,by omega,by omega,fun q h=>by cases h⟩,hb2⟩};obtain ⟨hv0,hv9⟩:=HFN.out v HD.out hv;have e1:¬(1152921504606846976:Int)≤v:=by omega
 have HHC0:=Zh (HRN.out.hopC hv);have HVN:=Zh hv;clear hv hv0 HFN HSR;go_wp2_with fail
 (refine Qac ?_;intro w3 hw3);obtain ⟨w2,hw2⟩:=Zx (w1.alloc (.cells #[.int .i64 v,.slice A n c] 91));have hb2:Below w1.heap.size w1 w2:=by rw [hw2];exact Qah
 have hz2:w2.heap.size=w1.heap.size+1:=by rw [hw2,World.size_alloc]
 have HW12:=Zh (show w.heap.size≤w2.heap.size from Yx HB1.out.size hb2.size);have hF2:Blk w2 w1.heap.size 91 #[.int .i64 v,.slice A n c]:=by rw [hw2];exact Blk.new _ _ _
 rw [←hw2] at hw3;clear hw2;have hb3:Below w2.heap.size w2 w3:=by rw [hw3];exact (Zr _ _).alloc (Zn _) _
 have hz3:w3.heap.size=w2.heap.size+1:=by rw [hw3,World.size_alloc]
 have hO3:Own w3 w2.heap.size 3 1 (some ⟨w2.heap.size,0,none⟩) 1 1 (Qag (nis [s])):=by rw [hw3];exact Own.lit w2 #[.int .i64 (s:Nat)] 1 (Zn _) (by omega) rfl
 have hb03:=Zb HB1.out (Zb hb2 hb3);rw [←hz2];clear hw3;obtain ⟨fb,hfb⟩:∃ b,b=w1.heap.size:=⟨_,rfl⟩;rw [←hfb] at hF2 hz2 ⊢
 have HF:=Zh (show ∀ V,Below w2.heap.size w2 V→V.cell? ⟨fb,0,none⟩=some (.int .i64 v)∧V.cell? ⟨fb,1,none⟩=some (.slice A n c) from fun V hV=>by
  have:=hF2.below hV hF2.lt;exact ⟨Zq this,Zq this⟩)
 have HRW:=Zh (show ∀ V,Below w2.heap.size w2 V→Blk V w.heap.size 80 #[.slice none 0 0,.int .i64 0,.int .i64 0] from fun V hV=>HR1.out.below (Zb hb2 hV) HR1.out.lt);have HRH:=Zh (show ∀ V,Below w2.heap.size w2 V→RdH V A n (hs.map (Qsy N ls [toV N s,frV N t])) from fun V hV=>HH.out.le (Le.below (Zb hb2 hV)));have HB2:=Zh (Zb HB1.out hb2);have HZ:=Zh (show fb<w2.heap.size∧w.heap.size<w2.heap.size from ⟨by omega,by have:=HRL.out;omega⟩);have HNO3:=Zh (HNO.out w3 w2.heap.size (by omega) hb03 (by have:=HRL.out;omega));have HB3:=Zh hb3;have HO3:=Zh hO3;have HZ3:=Zh hz3;have HR1L:=Zh (show w.heap.size<fb by rw [hfb];exact HRL.out);clear hb2 hz2 hF2 hb3 hz3 hO3 hb03 hfb HNO HH HR1;with_reducible refine HNO3.out.mono ?_
 rintro r w4 ⟨E,G,f,bf,dl,rfl,⟨_,_,eN,els,_⟩,hE,hW,hD,hG,hG2,hb4⟩;have HE:=Zh hE;have HEN:=Zh eN;have HELS:=Zh els;have HO4:=Zh (HO3.out.below hb4)
 have HW4:=Zh (hW.holds (Zr _ _) (X':=fun q=>Qab (some ⟨w2.heap.size,0,none⟩)=some q) (fun q hq=>.inl (by
  have h1:w2.heap.size=q:=Yv hq;have:=HZ3.out;exact ⟨by omega,by omega⟩)))
 have HD4:=Zh hD;have HG:=Zh hG
 have HNG4:=Zh (show ∀ q,Qab (some ⟨w2.heap.size,0,none⟩)=some q→¬G q from fun q hq hg=>by
  have h1:w2.heap.size=q:=Yv hq;have:=HZ3.out
  rcases hG2 q hg with h|h <;> omega)
 have HB4:=Zh (Zb HB3.out hb4);have x1:=(HF.out w4 HB4.out).2;have HQ9:=Zh (show ∀ (V:World) (G' X':Nat→Prop) n f bf dl hp R Lp,OpW V G' X' E n f bf dl hp R Lp→V.cell? ⟨E.qb,9,none⟩=some (.int .i64 Lp) from fun V G' X' n f bf dl hp R Lp h=>h.c9);clear eN els hE hW hD hG hG2 hb4 HNO3 HO3 HB3;go_wp2_with fail
 go_loopw [14,46] (fun ua ui W=>∃ (i p:Nat) (c1:Int) (l:List Nat) (A1:Option Addr) (n1 k1 m:Nat) (G':Nat→Prop) (n':Nat) (f':Nat→Nat→Option Value) (bf' dl':List Int) (hp':Nat→Option Int),i≤n∧ui=.int .i64 i∧ua=.slice A1 n1 k1∧n1=l.length+1∧Qed (StW N) s p c1 l∧Qwa N ls [toV N s,frV N t] p c1 (hs.drop i) t v∧Own W w2.heap.size 3 1 A1 n1 k1 (Qag (nis (s::l))) ∧
  OpW W G' (fun q=>Qab A1=some q) E n' f' bf' dl' hp' m m∧OpD E dl' bf' m n'∧m≤ls.length*l.length∧l.length≤i*16384∧(∀ q,Qab A1=some q→¬G' q)∧(∀ q,q<w2.heap.size→G' q)∧Below w2.heap.size w2 W) (fun _ ui _=>n-(intOf ui).toNat)
 case atStart=>exact ⟨0,s,0,[],_,1,1,0,G,0,f,bf,dl,_,Nat.zero_le _,rfl,rfl,rfl,.start,HHC0.out,HO4.out,HW4.out,HD4.out,Nat.zero_le _,Nat.zero_le _,HNG4.out,HG.out,HB4.out⟩
 case round =>
  clear HO4 HW4 HD4 HNG4 HB4 HG x1 HHC0;obtain ⟨i,p,c1,l,A1,n1,k1,m,G1,n',f',bf',dl',hp',hin,rfl,rfl,hn1,hrl,hhc,hown,hW,hD,hm,hll,hng,hga,hb⟩:=hrel;have HN1:=Zh hn1;have HRLi:=Zh hrl;have HOi:=Zh hown;have HWi:=Zh hW;have HDi:=Zh hD;have HMi:=Zh hm;have HLi:=Zh hll;have HNGi:=Zh hng;have HBi:=Zh hb;have HGAi:=Zh hga;have hll2:l.length≤268435456:=by{have:i*16384≤16384*16384:=Nat.mul_le_mul_right _ (by omega);omega};have hm2:m≤1610612736:=by{have:ls.length*l.length≤6*268435456:=Nat.mul_le_mul HL6.out hll2;omega};have hn9:n1≤268435457:=by omega
  clear hn1 hrl hown hW hD hm hll hng hga;by_cases hlt:i<n
  rotate_left
  · (obtain rfl:i=n:=by omega);have j2:¬((i:Int)<i):=by omega
    have hend:p=t∧c1=v:=by
     rw [List.drop_of_length_le (by rw [HNN.out];exact Zn _)] at hhc
     cases hhc with
     | nil=>exact ⟨rfl,rfl⟩
    obtain ⟨rfl,rfl⟩:=hend;have HCLN:=Zh (fun (V:World) (hV:Below wr.heap.size wr V)=>Qik A1 n1 k1 (Qag (nis (s::l))) V (HOi.out.below hV).rds (Qao _) (by omega));have HS1:=Zh (show ∀ V,Below wr.heap.size wr V→V.cell? ⟨fb,0,none⟩=some (.int .i64 c1)∧V.cell? ⟨E.qb,9,none⟩=some (.int .i64 (m:Int)) from fun V hV=>⟨(HF.out V (Zb HBi.out hV)).1,(HWi.out.below hV).c9⟩);(have HSX2:=Zh hll2;have hne:w.heap.size≠fb:=by have:=HR1L.out;omega);have hnq:w.heap.size≠E.qb:=(HWi.out.nG _ (.inl (HGAi.out _ HZ.out.2))).2.2.2;have HNE:=Zh (show w.heap.size≠fb∧w.heap.size≠E.qb from ⟨hne,hnq⟩);have HRR:=Zh (show ∀ V,Below wr.heap.size wr V→Blk V w.heap.size 80 #[.slice none 0 0,.int .i64 0,.int .i64 0] from fun V hV=>HRW.out V (Zb HBi.out hV));have HSX2:=Zh hll2;have s1:=HS1.out wr (Zr _ _);clear hhc hb hm2 hn9 hne hnq;(go_wp2_with fail);(refine wp_region_held_drew (S:=fun V=>V.cell? ⟨fb,0,none⟩=some (.int .i64 c1)∧V.cell? ⟨E.qb,9,none⟩=some (.int .i64 (m:Int))) (by kernel_rfl) s1 (fun _=>?_);refine tz 0 76 ?_;refine tzd 2 78 ?_;refine tzb 6 82 ?_;refine Zk 1 (fun K hK=>?_);go_simp;with_reducible refine (HCLN.out _ (Zr _ _).drew).mono ?_);rintro e w6 ⟨A6,k6,rfl,ho6,hb6⟩;have hbr6:Below wr.heap.size wr w6:=(Zr _ _).drew.trans hb6;go_simp;refine hK.out _ _ (HS1.out w6 hbr6) (fun _=>?_);clear hK K;refine tz 8 84 ?_;have hr6:=HRR.out w6 hbr6;obtain ⟨k0,k1,k2⟩:=hr6.three;have f0:=hr6.frozen 0;have f1:=hr6.frozen 1;have f2:=hr6.frozen 2;have HO6:=Zh ho6;have HB6:=Zh hbr6;have HR6:=Zh hr6;clear ho6 hb6 hbr6 hr6;refine Zk 9 (fun K hK=>?_);go_simp;refine hK.out _ _ ?_ (fun _=>?_);{have h1:=HS1.out w6 HB6.out;have h2:=HNE.out;refine ⟨?_,?_⟩;{rw [World.cell?_setCell_other _ _ _ _ (by simp only [ne_eq,Addr.mk.injEq];omega),World.cell?_setCell_other _ _ _ _ (by simp only [ne_eq,Addr.mk.injEq];omega),World.cell?_setCell_other _ _ _ _ (by simp only [ne_eq,Addr.mk.injEq];omega)];exact h1.1};{rw [World.cell?_setCell_other _ _ _ _ (by simp only [ne_eq,Addr.mk.injEq];omega),World.cell?_setCell_other _ _ _ _ (by simp only [ne_eq,Addr.mk.injEq];omega),World.cell?_setCell_other _ _ _ _ (by simp only [ne_eq,Addr.mk.injEq];omega)];exact h1.2}};clear hK K;refine tz 10 11 ?_;refine Zd ?_;obtain ⟨w7,hw7⟩:∃ W,W=((w6.setCell ⟨w.heap.size,0,none⟩ (.slice A6 n1 k6)).setCell ⟨w.heap.size,1,none⟩ (.int .i64 c1)).setCell ⟨w.heap.size,2,none⟩ (.int .i64 (m:Int)):=⟨_,rfl⟩;rw [←hw7];have hr7:Blk w7 w.heap.size 80 #[.slice A6 n1 k6,.int .i64 c1,.int .i64 (m:Int)]:=by rw [hw7];exact ((HR6.out.set_ 0 _).set_ 1 _).set_ 2 _
    have HB7:=Zh (show Below w.heap.size w w7 by
     rw [hw7];have hb:=HB2.out.trans ((Zb HBi.out HB6.out).mono (Nat.le_of_lt HZ.out.2));exact Zi (Zi (Zi hb (Zn _)) (Zn _)) (Zn _))
    have HO7:=Zh (show Own w7 wr.heap.size 3 1 A6 n1 k6 (Qag (nis (s::l))) by
     have hne:∀ q,Qab A6=some q→q≠w.heap.size:=fun q hq e=>by have h9:wr.heap.size≤q:=(HO6.out.lt q hq).1;have:=HBi.out.size;have:=HZ.out.2;omega
     have hf:∀ (W:World) (i:Nat) (v:Value),Own W wr.heap.size 3 1 A6 n1 k6 (Qag (nis (s::l)))→Own (W.setCell ⟨w.heap.size,i,none⟩ v) wr.heap.size 3 1 A6 n1 k6 (Qag (nis (s::l))):=fun W i v h=>h.far (Qad W _ i v) (.inr (fun e=>hne _ e rfl))
     rw [hw7];exact hf _ _ _ (hf _ _ _ (hf _ _ _ HO6.out)))
    obtain ⟨r0,r1,r2⟩:=hr7.three;clear hw7 k0 k1 k2 f0 f1 f2;(go_wp2_with fail);refine bodyPost_ret (v:=.tuple #[.agg #[.slice A6 n1 k6,.int .i64 c1,.int .i64 (m:Int)],.nilIface]) (by simp [results,results28,go_sem,r0,r1,r2]) rfl ?_;have hmm:=HMi.out;refine ⟨⟨c1,A6,n1,k6,s::l,(m:Int),rfl,⟨HD.out,fun _=>⟨l,rfl,HRLi.out,HSX2.out⟩,fun e=>absurd e HVN.out,by omega,?_⟩,HO7.out.rds.rdI,?_,HO7.out.cap,HO7.out.capMax,fun q hq=>⟨Yx HW12.out (Yx HBi.out.size (HO7.out.lt q hq).1),(HO7.out.lt q hq).2⟩⟩,HB7.out⟩;{have h1:ls.length*l.length≤ls.length*(s::l).length:=Nat.mul_le_mul_left _ (by simp);have h2:m≤ls.length*(s::l).length:=Yx hmm h1;exact_mod_cast h2};{have:=HN1.out;have:=HSX2.out;omega}
  obtain ⟨q,d,hsi,hst,hhc2⟩:=hhc.next (by rw [HNN.out];exact hlt);have hx:(hs.map (Qsy N ls [toV N s,frV N t]))[i]?=some (Qhh ls (toV N p) [toV N s,frV N t],p,q):=by rw [Yt,hsi];rfl
  obtain ⟨b9,o9,hA9,k0,k1x,k2⟩:=(HRH.out wr hb).2 i _ hx;simp only at k0 k1x k2;have HST:=Zh hst;have HHC:=Zh hhc2;obtain ⟨lv,hlv⟩:=Zx (Qhh ls (toV N p) [toV N s,frV N t]);rw [←hlv] at k0;have HLV:=Zh hlv;have j1:(i:Int)<n:=by omega
  have j0:0≤(i:Int):=by omega
  subst hA9;clear hhc hhc2 hst hsi hx hlv hb;by_cases hl0:lv=0
  · have hfl:=HST.out.flat (by rw [←HLV.out];exact hl0);(subst hl0;have k0:wr.cell? ⟨b9,o9+i*3,none⟩=some (.int .i64 0):=k0;obtain ⟨W2,hW2⟩:=Zx ((wr.alloc (.cells #[.int .i64 0,.int .i64 (p:Nat),.int .i64 (q:Nat)] 100)).alloc (.cells #[.int .i64 (q:Nat)] 3));have hbW:Below wr.heap.size wr W2:=by rw [hW2];exact Qah);(have hrdW:Rds W2 1 (some ⟨wr.heap.size+1,0,none⟩) 1 (Qag (nis [q])):=by rw [hW2];exact (Blk.new' (wr.alloc (.cells #[.int .i64 0,.int .i64 (p:Nat),.int .i64 (q:Nat)] 100)) 3 #[.int .i64 (q:Nat)] (by simp [World.size_alloc])).rds rfl);have hownW:=HOi.out.below hbW;have hszW:w2.heap.size≤W2.heap.size:=Yx HBi.out.size hbW.size;have HBX:=Zh (Zb HBi.out hbW);have HWX:=Zh (HWi.out.below hbW);obtain ⟨GX,hGX⟩:=Zx G1;rw [←hGX] at HWX;have HNX:=Zh (show ∀ q,Qab A1=some q→¬GX q by rw [hGX];exact HNGi.out);have HXA:=Zh (show ∀ q,Qab A1=some q→(fun q=>Qab A1=some q) q from fun _ h=>h);have HGAX:=Zh (show ∀ q,q<w2.heap.size→GX q by rw [hGX];exact HGAi.out);have HRN2:=Zh (show Qed (StW N) s q (c1+d) (l ++[q]) from HRLi.out.step hfl);have HW2:=Zh hW2;clear hW2 hbW hGX hfl;(go_wp2_with (at_builtin;rw [←HW2.out];with_reducible refine Qal rfl (.tmp 53) (.tmp 56) 61 rfl 3 _ 1 8 Qbo underlying61 rfl (by omega) rfl rfl hownW hrdW (Qao _) (by omega) (by omega) hszW ?_));intro A3 k3 w5 ho5 hg5 hat5;have HO5:=Zh ho5;have hlt4:=hownW.lt;have hlt5:=ho5.lt
    have HX5:=Zh (HWX.out.grow (X':=fun q=>Qab A3=some q) hg5 (fun q hq=>⟨HXA.out q hq,HNX.out q hq⟩) (fun q hq=>by
     rcases hat5 with h2|h2
     · exact .inl (HXA.out q (h2▸hq))
     · have h3:=(hlt5 q hq).2
       rw [h2] at hq
       cases hq
       exact .inr ⟨Zn _,h3⟩))
    have HB5:=Zh (Zo HBX.out hg5 hownW hszW)
    have HNG5:=Zh (show ∀ q,Qab A3=some q→¬GX q from fun q hq hg=>by
     rcases hat5 with h2|h2
     · rw [h2] at hq
       exact HNX.out q hq hg
     · rw [h2] at hq
       cases hq
       have:=HWX.out.gl _ (.inl hg);omega)
    clear hlt4 hlt5 hownW hrdW hszW ho5 hg5 hat5;(go_wp2_with fail);go_roundw
    case rel=>exact ⟨i+1,q,c1+d,l ++[q],A3,n1+1,k3,m,GX,n',f',bf',dl',hp',by omega,by go_num,rfl,by rw [Yp,HN1.out];rfl,HRN2.out,HHC.out,by rw [show s::(l ++[q])=(s::l) ++[q] from rfl,Qfy,Qbg];exact HO5.out,HX5.out,HDi.out,by
     have h1:=HMi.out;rw [Yp,Nat.mul_add];omega,by have h1:=HLi.out;rw [Yp,List.length_singleton,Nat.add_mul];omega,HNG5.out,HGAX.out,HB5.out⟩
    case measure=>simp [intOf];omega
  · obtain ⟨j,hj⟩:∃ j,lv=j+1:=⟨lv-1,by omega⟩;(obtain ⟨l0,y,z,v0,hl1,hy,hz,hlp,hwz,hd⟩:=HST.out.lp (j:=j) (by rw [←HLV.out];exact hj);obtain ⟨_,u,_,e2,_,hu⟩:=Qda HOK.out hy;obtain ⟨c,hc,_,_⟩:=Qcm (HPT.out.lvl l0 (Zm hl1)) hu;rw [←e2] at hc;rw [hc] at hlp;have hlv6:lv≤6:=by have:=(Zs hl1).1;have:=HL6.out;omega);(have hlvL:lv≤ls.length:=by have:=(Zs hl1).1;omega);(obtain ⟨W2,hW2⟩:=Zx (wr.alloc (.cells #[.int .i64 (lv:Nat),.int .i64 (p:Nat),.int .i64 (q:Nat)] 100));have hbW:Below wr.heap.size wr W2:=by rw [hW2];exact Qah);have HOPN:=Zh (Qtp E HE.out j W2 G1 _ n' f' bf' dl' hp' m m lv p q c l0 v0 (HWi.out.below hbW) hj (by rw [HELS.out];exact hl1) (by rw [HEN.out];exact hlp) HDi.out (by omega) (by omega) (by omega) (by omega));have hown2:=HOi.out.below hbW;have HBW:=Zh (Zb HBi.out hbW);have HOW2:=Zh hown2;have HW2:=Zh hW2;have HZD:=Zh (show N.ar[q]?=some z∧z.2.2≠1152921504606846976∧d=v0+z.2.2 from ⟨hz,hwz,hd⟩);have HLVL:=Zh hlvL;clear hl1 hy hz hlp hwz hd e2 hu hc hW2 hbW hown2 hlvL hj;(go_wp2_with fail);(rw [←HW2.out];with_reducible refine HOPN.out.mono ?_);rintro e w6 ⟨A2,k2',c2,m2,L2,GX,n3,f3,bf3,dl3,hp3,rfl,hop,hk2,hm2,hW6,hD6,hG6,hG7,ha6,hr6,hn6,_⟩;rw [HEN.out] at hop;have hL2:=hop.len;have hownW:=HOW2.out.keepK ha6.kept (fun q hq=>.inr hq);have hrdW:Rds w6 1 A2 k2' (Qag (nis L2)):=(hr6.le (Qau _ _)).rdsI;have HBX:=Zh (show Below w2.heap.size w2 w6 from HBW.out.trans (ha6.bel _ (fun b hb=>.inl (HGAi.out b hb))));have hszW:w2.heap.size≤w6.heap.size:=HBX.out.size;have HWX:=Zh hW6;have HDX:=Zh hD6;have HXA:=Zh (show ∀ q,Qab A1=some q→(fun b=>(fun q=>Qab A1=some q) b∨Qab A2=some b) q from fun _ h=>.inl h);have HNX:=Zh (show ∀ q,Qab A1=some q→¬GX q from fun q hq hg=>(hG7 q hg).elim (HNGi.out q hq) (fun h=>by have:=(HOW2.out.lt q hq).2;omega));have HGAX:=Zh (show ∀ q,q<w2.heap.size→GX q from fun q hq=>hG6 q (HGAi.out q hq));have HRN2:=Zh (show Qed (StW N) s q (c1+d) (l ++L2) by rw [HZD.out.2.2];exact HRLi.out.trans (hop.row HZD.out.1 HZD.out.2.1));have HK2:=Zh hk2;have HM2:=Zh hm2;have HL2:=Zh (show L2.length≤16384 by omega);(have hk29:k2'≤16384:=by omega);clear hop hk2 hm2 hW6 hD6 hG6 hG7 ha6 hr6 hn6 hL2 k0 k1x k2;(go_wp2_with (at_builtin;with_reducible refine Qal rfl (.tmp 72) (.tmp 73) 61 rfl 3 _ 1 8 Qbo underlying61 rfl (by omega) rfl rfl hownW hrdW (Qao _) (by omega) (by omega) hszW ?_));intro A3 k3 w5 ho5 hg5 hat5;have HO5:=Zh ho5;have hlt4:=hownW.lt;have hlt5:=ho5.lt
    have HX5:=Zh (HWX.out.grow (X':=fun q=>Qab A3=some q) hg5 (fun q hq=>⟨HXA.out q hq,HNX.out q hq⟩) (fun q hq=>by
     rcases hat5 with h2|h2
     · exact .inl (HXA.out q (h2▸hq))
     · have h3:=(hlt5 q hq).2
       rw [h2] at hq
       cases hq
       exact .inr ⟨Zn _,h3⟩))
    have HB5:=Zh (Zo HBX.out hg5 hownW hszW)
    have HNG5:=Zh (show ∀ q,Qab A3=some q→¬GX q from fun q hq hg=>by
     rcases hat5 with h2|h2
     · rw [h2] at hq
       exact HNX.out q hq hg
     · rw [h2] at hq
       cases hq
       have:=HWX.out.gl _ (.inl hg);omega)
    clear hlt4 hlt5 hownW hrdW hszW ho5 hg5 hat5;(go_wp2_with fail);go_roundw
    case rel=>exact ⟨i+1,q,c1+d,l ++L2,A3,n1+k2',k3,m+m2,GX,n3,f3,bf3,dl3,hp3,by omega,by go_num,rfl,by rw [Yp,HN1.out,HK2.out];omega,HRN2.out,HHC.out,by rw [show s::(l ++L2)=(s::l) ++L2 from rfl,Qfy,Qbg];exact HO5.out,by rw [show ((m+m2:Nat):Int)=(m:Int)+m2 by omega];exact HX5.out,by rw [show ((m+m2:Nat):Int)=(m:Int)+m2 by omega];exact HDX.out,by
     have h1:=HMi.out;have h2:=HM2.out;have h3:lv*L2.length≤ls.length*L2.length:=Nat.mul_le_mul_right _ HLVL.out;rw [Yp,Nat.mul_add];omega,by have h1:=HLi.out;have h2:=HL2.out;rw [Yp,Nat.add_mul];omega,HNG5.out,HGAX.out,HB5.out⟩
    case measure=>simp [intOf];omega
end Go.Proofs.YtdheeddnkdhfeaaGreatDoor
namespace Go.Proofs.YtdheeddnkdhfeaaGreatDoor
open Go.RowKit Go.Shelf Go.Lib Go.Proofs.Tryz
attribute [local go_sem ↓] Go.wp_at_zero Go.wp_at_succ
theorem infoI2:∃ i,Tryz.prog.info? 3=some i∧i.zero=some (.int .i64 0)∧i.size=1∧i.bytes=8:=info_parts Qbo
theorem Qpc {rs:List (List Int)} {i:Nat} {r:List Int} (h:rs[i]?=some r):(rs.take (i+1)).flatten=(rs.take i).flatten ++r:=by have hlt:=(Zs h).1;have e:=(Zs h).2;rw [Yf hlt,e];simp
theorem growNil (n:Nat)(w:World)(hn0:0<n)(hn:n≤1000000000) :
 Calls prog 120 #[.slice none 0 0,.int .i64 n] w fun e w'=>∃ A' c',e=.returned (.slice A' 0 c')∧Own w' w.heap.size 3 1 A' 0 c' []∧Below w.heap.size w w':=by obtain ⟨i,hi,hz,hs,hb⟩:=infoI2;have hcon:=Any8.slices_Grow_grow growI i (.int .i64 0) hi hz (by omega) none 0 0 n [] w (by omega) (by omega) (by rw [hb];omega) (by omega) (by simp) (fun _=>rfl) (fun a h=>by cases h);refine Calls.mono (show Calls prog 120 _ _ _ from hcon) ?_;rintro e w' ⟨rfl,rfl⟩;refine ⟨_,_,rfl,?_,Qah⟩;refine ⟨by simp,Or.inr ⟨w.heap.size,_,_,rfl,Zn _,heap_alloc_new _ _,Nat.zero_le _,grownCap_le_maxLen _ _ _ _ (by unfold maxLen;omega),?_,by simp⟩⟩;have:=grownCap_ge w (0+n) 0 (Tryz.growI_ren.t 25);simp [Builtin.zeroCells,Value.cells];simp at this;first | done | omega
theorem Qrd {ls:List (List Int)} {k:Nat}:(ls.take k).flatten.length≤ls.flatten.length:=by
 conv=>rhs;rw [←List.take_append_drop k ls]
 rw [List.flatten_append,Yp];omega
set_option maxHeartbeats 2000000 in
theorem Qup (A:Option Addr)(n c:Nat) (ls:List (List Int)) (w:World) (h:RdT w A n ls) (hn:n≤1000000000) (h0:0<ls.flatten.length) (hb:ls.flatten.length≤1000000000) :
 Calls prog 66 #[.slice A n c] w fun e w'=>∃ A' c',e=.returned (.slice A' ls.flatten.length c')∧RdI w' A' ls.flatten.length ls.flatten∧ls.flatten.length≤c'∧c'≤9223372036854775807∧(∀ g,g<w.heap.size→Qab A'≠some g)∧Below w.heap.size w w':=by
 have HL:=Zh h.1;have HF:=Zh (show ∀ k,(ls.take k).flatten.length≤ls.flatten.length from fun k=>Qrd);have HG:=Zh (growNil ls.flatten.length w h0 hb);have HE:=Zh (show ls.take n=ls from Ye (by rw [h.1];exact Zn _));generalize ht:ls.flatten.length=t at *;have HT:=Zh ht;clear ht;go_enter func66,ntmps66
 go_wp2_with fail
 go_loopw [3,11] (fun a i W=>w=W∧∃ k:Nat,k≤n∧i=.int .i64 k∧a=.int .i64 ((ls.take k).flatten.length:Nat)) (fun _ i _=>n-(RowKit.intOf i).toNat)
 case atStart=>exact ⟨by trivial,0,Nat.zero_le _,rfl,by simp⟩
 case round =>
  obtain ⟨rfl,k,hk,rfl,rfl⟩:=hrel;by_cases hlt:k<n
  {obtain ⟨b,o,A',n',c',l,rfl,hl,hc,hr,_,_⟩:=h.at_ hlt;(have hx:=Qpc hl;have hx2:(ls.take (k+1)).flatten.length=(ls.take k).flatten.length+n':=by rw [hx,Yp,hr.1]);(have hle:=HF.out (k+1);have HX:=Zh hx2;rw [hx2] at hle;clear hx hx2 hl;generalize (ls.take k).flatten.length=s at *;have e1:IntKind.i64.wrap ((s:Int)+n')=(s:Int)+n':=IntWalk.i64_in _ (by omega);have e2:¬((s:Int)+n'<0):=by omega);(go_wp2_with fail);go_roundw;(case rel=>exact ⟨by trivial,k+1,by omega,by go_num,by rw [HX.out];go_num⟩);case measure=>simp [RowKit.intOf];omega};{(obtain rfl:k=n:=by omega);rw [HE.out,HT.out];(go_wp2_with fail);(with_reducible refine (HG.out).mono ?_);rintro e w2 ⟨A2,c2,rfl,hown,hb2⟩;(go_wp2_with fail);(go_loopw [6,27] (fun a i W=>Below w.heap.size w W∧∃ (k2 m:Nat) (A3:Option Addr) (c3:Nat),k2≤k∧i=.int .i64 k2∧a=.slice A3 m c3∧m=(ls.take k2).flatten.length∧Own W w.heap.size 3 1 A3 m c3 (Qag (ls.take k2).flatten)) (fun _ i _=>k-(RowKit.intOf i).toNat));(case atStart=>exact ⟨hb2,0,0,A2,c2,Nat.zero_le _,rfl,rfl,by simp,by simpa [Qag] using hown⟩);case round =>clear hown;obtain ⟨hbl,k2,m,A3,c3,hk2,rfl,rfl,hm,hown⟩:=hrel;(by_cases hlt2:k2<k);{obtain ⟨b,o,A',n',c',l,rfl,hl,hc,hr,_,_⟩:=h.at_ hlt2;(have hx:=Qpc hl;have hx2:(ls.take (k2+1)).flatten.length=m+n':=by rw [hx,Yp,hr.1,hm]);have hle:=HF.out (k2+1);have HX:=Zh hx2;have HX1:=Zh hx;rw [hx2] at hle;have j1:=Zc hbl (Zn _) hc;have hrd:=(hr.below hbl).rdsI;have hsz:=hbl.size;clear hx hx2 hl hm;(go_wp2_with (at_builtin;with_reducible refine Qal rfl (.tmp 31) (.tmp 32) 61 rfl 3 _ 1 8 Qbo underlying61 rfl (by omega) rfl rfl hown hrd (Qao _) (by omega) (by omega) (by omega) ?_));intro A6 c6 w6 hown6 hg6 _;have hb6:=Zo hbl hg6 hown (by omega);clear hown hbl hg6 hrd j1;go_wp2;go_roundw;(case rel=>exact ⟨hb6,k2+1,m+n',A6,c6,by omega,by go_num,rfl,HX.out.symm,by rw [HX1.out,Qbg];exact hown6⟩);case measure=>simp [RowKit.intOf];omega};{(obtain rfl:k2=k:=by omega);rw [HE.out] at hm hown;rw [HT.out] at hm;have hcap:=hown.cap;have hcm:=hown.capMax;have HR:=Zh hown.rds.rdI;have HZ:=Zh (show ∀ g,g<w.heap.size→Qab A3≠some g from fun g hg e=>by have:=(hown.lt g e).1;omega);subst hm;clear hown;(go_wp2_with fail);go_ret;exact ⟨A3,c3,rfl,HR.out,by omega,by omega,HZ.out,Qah⟩}}
theorem Qqw (A1 A2:Option Addr)(n1 c1 n2 c2 g c:Nat)(l1 l2:List Int)(w:World) (hB:Blk w g 61 #[.slice A1 n1 c1,.slice A2 n2 c2]) (h1:RdI w A1 n1 l1) (h2:RdI w A2 n2 l2) (b1:n1≤c1) (b2:n2≤c2) (m1:c1≤9223372036854775807) (m2:c2≤9223372036854775807) (h0:0<n1) (hb:n1+n2≤1000000000) :
 Calls prog 66 #[.slice (some ⟨g,0,none⟩) 2 c] w fun e w'=>∃ A' m c',e=.returned (.slice A' m c')∧m≤1000000000∧RdI w' A' m (l1 ++l2)∧m≤c'∧c'≤9223372036854775807∧(∀ g,g<w.heap.size→Qab A'≠some g)∧Below w.heap.size w w':=by
 have hR:RdT w (some ⟨g,0,none⟩) 2 [l1,l2]:=⟨rfl,fun i l hl=>by
  match i,hl with
  | 0,hl=>cases hl;exact ⟨g,0,A1,n1,c1,rfl,Zq hB,h1,b1,m1⟩
  | 1,hl=>cases hl;exact ⟨g,0,A2,n2,c2,rfl,Zq hB,h2,b2,m2⟩
  | i+2,hl=>simp at hl⟩
 have e:[l1,l2].flatten=l1 ++l2:=by simp
 have l1':=h1.1;have l2':=h2.1;have hc:=Qup (some ⟨g,0,none⟩) 2 c [l1,l2] w hR (by omega) (by rw [e,Yp];omega) (by rw [e,Yp];omega);refine hc.mono ?_;rintro e' w' ⟨A',c',rfl,g1,g2,g3,g4,g5⟩;rw [e] at g1;refine ⟨A',_,c',rfl,by rw [e,Yp];omega,?_,g2,g3,g4,g5⟩;rw [e];exact g1
end Go.Proofs.YtdheeddnkdhfeaaGreatDoor
