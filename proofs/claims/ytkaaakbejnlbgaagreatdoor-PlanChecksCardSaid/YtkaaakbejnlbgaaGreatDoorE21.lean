/- Qbl of the proof: AsF, DiU, MnY, AsK, TaP, WsP, PmP, PlJ, PlF, PlB. -/
import Derived.Test.YtkaaakbejnlbgaaGreatDoorE20
set_option maxHeartbeats 4000000
set_option maxRecDepth 20000
namespace Go.Proofs.YtkaaakbejnlbgaaGreatDoor
open Go.RowKit Go.Proofs.Tryz
attribute [local go_sem ↓] Go.wp_at_zero Go.wp_at_succ
def Rdj (N:Qak)(s:Nat)(dl:Iz):Prop:=(wV N s=1152921504606846976∧dl=List.replicate N.ar.length 1152921504606846976)∨(wV N s≠1152921504606846976∧BfF N s dl∧BfG N dl N.ar.length 0)
def FromPost (w:World)(N:Qak)(m s:Nat)(r:Ending)(w':World):Prop:=(∃ (D:Nat) (dl:Iz),r=.returned (.slice (some ⟨D,0,none⟩) m m)∧Blk w' D 2 (Qbr dl)∧dl.length=m∧Rdj N s dl)∧Bw w w'
theorem Rco (A B C NX TX:Oz)(n m k c d e cx ct s:Nat)(N:Qak)(w:World)(h:Qcp w A B C n m k N)(hok:Qar N) (hnx:RdT w NX m (Qqq N)) (htx:RdT w TX m (Qqy N)) (hs:s<m) :
 Calls prog 61 #[.agg #[.slice A n c,.slice B m d,.slice C k e,.slice NX m cx,.slice TX m ct],.int .i64 s] w (FromPost w N m s):=by
 have HH:=Zh h;have hlm:N.ar.length=m:=h.2.1.1;have hln:N.vs.length=n:=h.1.1;have hm:m≤16384:=by rw [←hlm];exact hok.la
 have HNX:=Zh hnx;have HTX:=Zh htx;have HLM:=Zh hlm;have i1:0≤(s:Int):=Oo
 have i2:(s:Int)<m:=Oo
 have HTB:=Zh (fun a b:Nat=>Qcs hok a b);obtain ⟨ys,hys⟩:∃ y,N.ar[s]?=some y:=⟨_,Zg Oo⟩;have HYS:=Zh hys
 have HRW:=Zh (show ∀ a,a<m→∃ nb no na nc tb to_ ta tc,NX=some ⟨nb,no,none⟩∧TX=some ⟨tb,to_,none⟩∧∀ V,Bw w V→V.cell? ⟨nb,no+a,none⟩=some (.slice na (Qge N a).length nc)∧V.cell? ⟨tb,to_+a,none⟩=some (.slice ta (Qge N a).length tc)∧RdI V na (Qge N a).length (Qge N a)∧RdI V ta (Qge N a).length (Qwh N a) from fun a ha=>by
  obtain ⟨nb,no,na,n1,nc,l1,e1,g1,g2,g3,_,_⟩:=HNX.o.at_ ha;obtain ⟨tb,to_,ta,n2,tc,l2,e2,f1,f2,f3,_,_⟩:=HTX.o.at_ ha;rw [Rci (by rw [HLM.o];exact ha)] at g1
  cases g1
  rw [Rdb (by rw [HLM.o];exact ha)] at f1
  cases f1
  have q1:n1=(Qge N a).length:=g3.1.symm;have q2:n2=(Qge N a).length:=by rw [←trn_len];exact f3.1.symm
  subst q1;rw [q2] at f2 f3;exact ⟨nb,no,na,nc,tb,to_,ta,tc,e1,e2,fun V hV=>⟨Zc hV (Zn _) g2,Zc hV (Zn _) f2,g3.below hV,f3.below hV⟩⟩)
 obtain ⟨nb0,no0,_,_,tb0,to0,_,_,rfl,rfl,_⟩:=HRW.o s hs;clear h hnx htx hlm hln hys;go_enter func61,ntmps61
 go_wp2_with fail
 (refine Qab ?_;intro w1 hw1);have hb1:Bw w w1:=by rw [hw1];exact Qag
 have hX1:Blk w1 w.heap.size 129 #[.slice A n c,.slice B m d,.slice C k e,.slice (some ⟨nb0,no0,none⟩) m cx,.slice (some ⟨tb0,to0,none⟩) m ct]:=by rw [hw1];refine Blk.new' _ _ _ ?_;rfl
 clear hw1;with_reducible refine (Rag m w1 Oo).mono ?_
 rintro r w2 ⟨rfl,hD2,hb2⟩;obtain ⟨D,hDe⟩:=Zx w1.heap.size;rw [←hDe] at hD2 ⊢;have HW2:=Zh (show BfW w D #[.slice A n c,.slice B m d,.slice C k e,.slice (some ⟨nb0,no0,none⟩) m cx,.slice (some ⟨tb0,to0,none⟩) m ct] w2 (List.replicate m 1152921504606846976) from ⟨Zb hb1 hb2,hX1.below hb2 hX1.lt,hD2,by rw [hDe];exact hX1.lt⟩);clear hDe hD2 hb1 hb2 hX1;have x0:w2.cell? ⟨w.heap.size,0,none⟩=some (.slice A n c):=Zq HW2.o.box;have x1:w2.cell? ⟨w.heap.size,1,none⟩=some (.slice B m d):=Zq HW2.o.box;have x2:w2.cell? ⟨w.heap.size,2,none⟩=some (.slice C k e):=Zq HW2.o.box;have xl:=HW2.o.box.lt;go_wp2_with fail
 with_reducible refine (Qot A B C n m k c d e (s:Int) w2 i1 i2).mono ?_
 rintro r w3 ⟨rfl,hb3⟩;have HW3:=Zh (HW2.o.below hb3);clear x0 x1 x2 xl hb3 HW2;obtain ⟨yb,yo,rfl,y0,y1,y2⟩:=(HH.o.below HW3.o.bel).2.1.2 s _ HYS.o;have x1:w3.cell? ⟨w.heap.size,1,none⟩=some (.slice (some ⟨yb,yo,none⟩) m d):=Zq HW3.o.box;have hw3l:=(Qbw HYS.o).2.2;obtain ⟨z0,hz0⟩:∃ z,z=ys.2.2:=⟨_,rfl⟩;rw [←hz0] at y2 hw3l;have HZS:=Zh hw3l;clear y0 y1 hz0 hw3l;by_cases hinf:z0=1152921504606846976;{(have e1:(z0 == 1152921504606846976)=true:=by simp [hinf]);(go_wp2_with fail);go_ret;exact ⟨⟨D,_,rfl,HW3.o.row,Sm,.inl ⟨by rw [HZS.o];exact hinf,by rw [HLM.o]⟩⟩,HW3.o.bel⟩};have e1:(z0 == 1152921504606846976)=false:=by simp [hinf]
 have HNI:=Zh (show wV N s≠1152921504606846976 by rw [HZS.o];exact hinf);have d0:=HW3.o.row.cellI (i:=s) (x:=1152921504606846976) (by rw [List.getElem?_replicate,if_pos hs]);have df:=HW3.o.row.frozen s;have HW4:=Zh (HW3.o.set s 0);have HF0:=Zh (BfF.start (N:=N) (s:=s) (by rw [HLM.o];exact hs));rw [HLM.o] at HF0;clear hinf;go_wp2_with fail
 clear x1 y2 d0 df;go_loopw [6] (fun um V=>∃ (dl:Iz) (more:Bool),um=.bool more∧BfW w D #[.slice A n c,.slice (some ⟨yb,yo,none⟩) m d,.slice C k e,.slice (some ⟨nb0,no0,none⟩) m cx,.slice (some ⟨tb0,to0,none⟩) m ct] V dl∧BfF N s dl∧(more=false→BfG N dl m 0)) (fun um V=>2*Rcz (rowOf V D)+(match um with|.bool true=>1|_=>0))
 case atStart=>exact ⟨_,true,rfl,HW4.o,HF0.o,fun h=>by cases h⟩
 case round =>
  clear HW4 HF0 HW3;obtain ⟨dl,more,rfl,hW,hF,hG⟩:=hrel;have HW:=Zh hW;have HF:=Zh hF
  cases more with
  | false =>have hg:=hG rfl;clear hW hF hG;(go_wp2_with fail);go_ret;exact ⟨⟨D,dl,rfl,HW.o.row,by rw [HF.o.len,HLM.o],.inr ⟨HNI.o,HF.o,by rw [HLM.o];exact hg⟩⟩,HW.o.bel⟩
  | true =>
   clear hW hF hG;(go_wp2_with fail);(go_loopw [6,7] (fun um ua V=>∃ (dl2:Iz) (more:Bool) (a:Nat),a≤m∧um=.bool more∧ua=.int .i64 a∧BfW w D #[.slice A n c,.slice (some ⟨yb,yo,none⟩) m d,.slice C k e,.slice (some ⟨nb0,no0,none⟩) m cx,.slice (some ⟨tb0,to0,none⟩) m ct] V dl2∧BfF N s dl2∧Rcz dl2≤Rcz dl∧(more=true→Rcz dl2<Rcz dl)∧(more=false→BfG N dl2 a 0)) (fun _ ua _=>m-(intOf ua).toNat));case atStart=>exact ⟨dl,false,0,Nat.zero_le _,rfl,rfl,HW.o,HF.o,Zn _,(fun h=>by cases h),fun _ p j b hp=>by omega⟩
   case round =>
    obtain ⟨dl2,more,a,ha,rfl,rfl,hW2,hF2,hle2,hlt2,hG2⟩:=hrel;have HW2:=Zh hW2;have HF2:=Zh hF2;have HG2:=Zh hG2;have HLT2:=Zh hlt2;(by_cases ham:a<m);rotate_left
    · (obtain rfl:a=m:=Oo);(have j2:¬((a:Int)<a):=Oo);have hm1:=Qvj HW.o.row;have hm2:=Qvj hW2.row;clear hW2 hF2 hG2 hlt2;(go_wp2_with fail);go_roundw;case rel=>exact ⟨dl2,more,rfl,HW2.o,HF2.o,HG2.o⟩
      case measure =>
       rw [hm1,hm2]
       cases more with
       | false=>simp;omega
       | true=>have:=HLT2.o rfl;simp;omega
    obtain ⟨nb2,no2,na2,nc2,tb2,to2,ta2,tc2,e2,e3,hrow⟩:=HRW.o a ham;cases e2;cases e3;(have HS3:=Zh hrow;obtain ⟨ln2,hlne⟩:=Zx ((Qge N a).length);rw [←hlne] at HS3;have hln5:ln2≤16384:=by rw [hlne];have:=nxt_len N a;have:=HLM.o;omega);(have HLE2:=Zh hlne;have j1:(a:Int)<m:=Oo);(have j0:0≤(a:Int):=Oo);clear hrow hlne hW2 hF2 hG2 hlt2;(go_wp2_with fail);(go_loopw [6,8] (fun um uk V=>∃ (kk:Nat) (dl3:Iz) (more3:Bool),kk≤ln2∧uk=.int .i64 kk∧um=.bool more3∧BfW w D #[.slice A n c,.slice (some ⟨yb,yo,none⟩) m d,.slice C k e,.slice (some ⟨nb0,no0,none⟩) m cx,.slice (some ⟨tb0,to0,none⟩) m ct] V dl3∧BfF N s dl3∧Rcz dl3≤Rcz dl∧(more3=true→Rcz dl3<Rcz dl)∧(more3=false→BfG N dl3 a kk)) (fun _ uk _=>ln2-(intOf uk).toNat));(case atStart=>exact ⟨0,dl2,more,Nat.zero_le _,rfl,rfl,HW2.o,HF2.o,hle2,HLT2.o,HG2.o⟩);case round =>obtain ⟨kk,dl3,more3,hkk,rfl,rfl,hW3,hF3,hle3,hlt3,hG3⟩:=hrel;have HW3:=Zh hW3;have HF3:=Zh hF3;have HLE3:=Zh hle3;have HLT3:=Zh hlt3;have HG3:=Zh hG3;obtain ⟨r1,r2,r3,r4⟩:=HS3.o wr hW3.bel;have x3:wr.cell? ⟨w.heap.size,3,none⟩=some (.slice (some ⟨nb0,no0,none⟩) m cx):=Zq hW3.box;have x4:wr.cell? ⟨w.heap.size,4,none⟩=some (.slice (some ⟨tb0,to0,none⟩) m ct):=Zq hW3.box;have x1:wr.cell? ⟨w.heap.size,1,none⟩=some (.slice (some ⟨yb,yo,none⟩) m d):=Zq hW3.box;have hXl:=hW3.box.lt;obtain ⟨da,hda⟩:∃ da,dl3[a]?=some da:=⟨_,Zg (by rw [HF3.o.len,HLM.o];exact ham)⟩;have d0:=hW3.row.cellI hda;have HDA:=Zh hda;clear hW3 hF3 hle3 hlt3 hG3 hda HW2 HF2 HG2 HLT2 hle2;(by_cases hlt:kk<ln2);rotate_left;{(obtain rfl:kk=ln2:=Oo);(have j2:¬((kk:Int)<kk):=Oo);have HEX:=Zh (fun h=>(HG3.o h).up (.inl (by rw [←HLE2.o];exact Zn _)));clear r3 r4;exact Kcs};(have j2:(kk:Int)<ln2:=Oo);(by_cases hdl:da<1152921504606846976);rotate_left;{have HEX:=Zh (fun h=>(HG3.o h).up (.inr (by rw [Qfi HDA.o];exact hdl)));clear r3 r4;exact Kcs};obtain ⟨b,hb1,hb2,hb3,hb4⟩:=nxt_at (N:=N) (a:=a) (k:=kk) (by rw [←HLE2.o];exact hlt);obtain ⟨ab,ao,z1,rfl,hz1,c1⟩:=r3.at_ hlt;rw [hb1] at hz1;cases hz1;obtain ⟨bb,bo,z2,rfl,hz2,c2⟩:=r4.at_ hlt;rw [hb2] at hz2;cases hz2;obtain ⟨y,hy⟩:∃ y,N.ar[b]?=some y:=⟨_,Zg hb4⟩;have hzw:=Qei (hok.arcs _ (Zm hy)).w;obtain ⟨_,_,ey,y0,y1,y2⟩:=(HH.o.below HW3.o.bel).2.1.2 b _ hy;cases ey;(obtain ⟨z,hze⟩:=Zx y.2.2;rw [←hze] at y2 hzw;have j3:0≤(kk:Int):=Oo);(have j4:(b:Int)<m:=by have:=HLM.o;omega);(have j5:0≤(b:Int):=Oo);(have hz0:0≤z:=Oo);(have hz9:z≤1152921504606846976:=Oo);have hda0:0≤da:=by{rcases HF3.o.at_ a with h|⟨h,_,_⟩ <;> rw [Qfi HDA.o] at h <;> omega};(have hub:=(HTB.o a b).resolve_left hb3;have hub9:Qal N a b≤1152921504606846976:=Oo);have hcb:=Qet hda0 hub.1;have HAD:=Zh (fun V=>Qvg da (Qal N a b) V ⟨hda0,Oo⟩ ⟨hub.1,hub9⟩);obtain ⟨cc,hcc⟩:=Zx (Qdg da (Qal N a b));rw [←hcc] at hcb;have HAZ:=Zh (fun V=>Qvg cc z V ⟨hcb.1,hcb.2.1⟩ ⟨hz0,hz9⟩);obtain ⟨cz,hcz⟩:=Zx (Qdg cc z);have HCC:=Zh hcc;have HCZ:=Zh hcz;have HCD:=Zh (show Qdg (Qdg (dAt dl3 a) (Qal N a b)) y.2.2=cz by rw [Qfi HDA.o,←hcc,←hze];exact hcz.symm);have HDI:=Zh (show dAt dl3 a<1152921504606846976 by rw [Qfi HDA.o];exact hdl);have HD0:=Zh (show 0≤dAt dl3 a by rw [Qfi HDA.o];exact hda0);obtain ⟨db,hdb⟩:∃ db,dl3[b]?=some db:=⟨_,Zg (by rw [HF3.o.len];exact hb4)⟩;have HDB:=Zh hdb;have HZ0:=Zh (show 0≤y.2.2 by rw [←hze];exact hz0);have HB1:=Zh hb1;have HB3:=Zh hb3;have HY:=Zh hy;clear hb1 hb2 hb3 hb4 hy r3 r4 hzw hub hub9 hcc hdb hcb hcz hze y0 y1;(go_wp2_with fail);(refine wp_region_held_drew (S:=fun V=>V=wr.drew) Kf rfl (fun _=>?_);refine tzd 0 67 ?_;refine tzd 4 71 ?_;refine tzd 8 75 ?_;refine tzd 13 80 ?_;refine tzb 17 84 ?_;refine tz 19 86 ?_;refine Zk 12 (fun K hK=>?_);go_simp;with_reducible refine (HAD.o _).mono ?_);(rintro r w' ⟨rfl,rfl⟩;rw [←HCC.o];go_simp;refine hK.out _ _ rfl (fun _=>?_);clear hK K;refine Zk 20 (fun K hK=>?_);go_simp;with_reducible refine (HAZ.o _).mono ?_);(rintro r w' ⟨rfl,rfl⟩;rw [←HCZ.o];go_simp;refine hK.out _ _ rfl (fun _=>?_);clear hK K;refine tz 21 10 ?_;refine Zd ?_;obtain ⟨w5,hw5⟩:=Zx wr.drew;rw [←hw5];have hb5:Bw wr w5:=by rw [hw5];exact (Zr _ _).drew);have HW5:=Zh (HW3.o.below hb5);clear hw5 hb5 HAD HAZ r1 r2 c1 c2 x1 x3 x4 d0 hXl y2;have d0:=HW5.o.row.cellI HDB.o;have df:=HW5.o.row.frozen b;(by_cases hls:cz<db);rotate_left;{have HNO:=Zh (show dAt dl3 b≤cz by rw [Qfi HDB.o];omega);have HGN:=Zh (fun h=>BfG.next hok (HG3.o h) HB1.o HY.o HD0.o HB3.o HZ0.o (by rw [HCD.o];exact HNO.o));(go_wp2_with fail);go_roundw;(case rel=>exact ⟨kk+1,dl3,more3,Oo,by go_num,rfl,HW5.o,HF3.o,HLE3.o,HLT3.o,HGN.o⟩);case measure=>simp [intOf];omega};{have hnd:=HF3.o.nd hok (b:=b) (y:=y) HDI.o HB3.o HY.o HZ0.o;rw [HCD.o,Qfi HDB.o] at hnd;have HND:=Zh (hnd hls);have HSU:=Zh (Ral dl3 b cz db HDB.o HND.o.2 hls);have HW6:=Zh (HW5.o.set b cz);clear hnd;(go_wp2_with fail);go_roundw;(case rel=>exact ⟨kk+1,_,true,Oo,by go_num,rfl,HW6.o,HND.o.1,by have:=HSU.o;have:=HLE3.o;omega,fun _=>by have:=HSU.o;have:=HLE3.o;omega,fun h=>by cases h⟩);case measure=>simp [intOf];omega}
def Qpn (N:Qak)(s t:Nat)(v:Int):Prop:=(wV N s=1152921504606846976∧v=1152921504606846976)∨(wV N s≠1152921504606846976∧Lst (Rch (StW N) s t) v)
theorem Qpn.uniq {N:Qak}{s t:Nat}{a b:Int}(h:Qpn N s t a)(g:Qpn N s t b):a=b:=by
 rcases h with ⟨h1,h2⟩|⟨h1,h2⟩ <;> rcases g with ⟨g1,g2⟩|⟨g1,g2⟩
 {rw [h2,g2]};{exact absurd h1 g1};{exact absurd g1 h1};{exact h2.uniq g2}
def Qqc (N:Qak)(s:Nat)(tl row:Iz):Prop:=row.length=tl.length∧∀ (i t:Nat),tl[i]?=some (t:Int)→∃ v,row[i]?=some v∧Qpn N s t v
theorem avM_mem {N:Qak}{s i t nt:Nat}{tl:Iz} (ht:tl[i]?=some (t:Int)) (hi:i<nt):frV N t∈avM N s tl nt:=by unfold avM;refine List.mem_cons_of_mem _ (List.mem_map.2 ⟨(t:Int),?_,Sm⟩);exact Zm (i:=i) (by rw [List.getElem?_take_of_lt hi];exact ht)
theorem RowQ.dist {N:Qak} {ls:Lz} {cl:Iz} {s nt:Nat} {tl row:Iz} {xs:Tri} (h:RowQ N ls (avM N s tl nt) s tl row) (hok:Qar N) (hP:Qbt N.vs.length ls) (hA:Qes N ls cl) (hs:N.ar[s]?=some xs) (hl:tl.length=nt):Qqc N s tl row:=by
 refine ⟨h.1,fun i t ht=>?_⟩;obtain ⟨v,hv,h1⟩:=h.2 i t ht;refine ⟨v,hv,?_⟩;rcases h1 with ⟨g1,g2⟩|⟨g1,g2⟩
 {exact .inl ⟨g1,g2⟩};{exact .inr ⟨g1,Rcc hok hP (hA.ex hok hP) ⟨_,hs⟩ (by unfold avM;simp) (avM_mem ht (by have:=(Zs ht).1;omega)) g2⟩}
theorem Qqc.uniq {N:Qak}{s:Nat}{tl r r':Iz}(h:Qqc N s tl r)(g:Qqc N s tl r') (hn:∀ (i:Nat) (t:Int),tl[i]?=some t→∃ a:Nat,t=(a:Int)):r=r':=by
 refine List.ext_getElem? (fun i=>?_);by_cases hi:i<tl.length
 {obtain ⟨t,ht⟩:∃ t,tl[i]?=some t:=⟨_,Zg hi⟩;obtain ⟨a,rfl⟩:=hn i t ht;obtain ⟨v,hv,h1⟩:=h.2 i a ht;obtain ⟨v',hv',h2⟩:=g.2 i a ht;rw [hv,hv',h1.uniq h2]};{rw [Yd (by rw [h.1];omega),Yd (by rw [g.1];omega)]}
theorem Rdj.dist {N:Qak}{s t:Nat}{dl:Iz}{v:Int}(hok:Qar N)(h:Rdj N s dl) (hv:dl[t]?=some v):Qpn N s t v:=by
 rcases h with ⟨h1,rfl⟩|⟨h1,h2,h3⟩
 {refine .inl ⟨h1,?_⟩;rw [List.getElem?_replicate] at hv;(split at hv);{exact (Yv hv).symm};{cases hv}};{have:=h2.fin hok h3 t;rw [Qfi hv] at this;exact .inr ⟨h1,this⟩}
theorem Qqc.snoc {N:Qak}{s a i:Nat}{tl row:Iz}{v:Int}(h:Qpn N s a v) (ht:tl[i]?=some (a:Int)) (g:Qqc N s (tl.take i) row):Qqc N s (tl.take (i+1)) (row ++[v]):=by
 have hi:=(Zs ht).1;have hl:row.length=i:=by rw [g.1,Yw];omega
 refine ⟨by rw [Yp,hl,Yw,List.length_singleton];omega,fun k t hk=>?_⟩;by_cases e:k<i
 {rw [List.getElem?_take_of_lt Oo] at hk;obtain ⟨u,hu,h1⟩:=g.2 k t (by rw [List.getElem?_take_of_lt e];exact hk);exact ⟨u,by rw [Yc Oo];exact hu,h1⟩};{have:=(Zs hk).1;(rw [Yw] at this;obtain rfl:k=i:=Oo);rw [List.getElem?_take_of_lt Oo,ht] at hk;obtain rfl:a=t:=by{simp only [Option.some.injEq] at hk;omega};exact ⟨v,by rw [Yb Oo,hl,Yy];rfl,h⟩}
def Qfq (m:Nat)(l:Iz):Option Nat:=l.findIdx? (fun a=>decide (a<0) || decide ((m:Int)≤a))
theorem Qng {m:Nat}{l:Iz}(h:Qfq m l=none)(i:Nat)(a:Int) (hi:l[i]?=some a):0≤a∧a<(m:Int):=by unfold Qfq at h;rw [List.findIdx?_eq_none_iff] at h;have:=h a (Zm hi);simp only [Bool.or_eq_false_iff,decide_eq_false_iff_not] at this;omega
theorem Qkt {m:Nat}{l:Iz} (h:∀ (i:Nat) (a:Int),l[i]?=some a→0≤a∧a<(m:Int)):Qfq m l=none:=by unfold Qfq;rw [List.findIdx?_eq_none_iff];intro x hx;obtain ⟨i,hi⟩:=Yr hx;have:=h i x hi;simp only [Bool.or_eq_false_iff,decide_eq_false_iff_not];omega
theorem Qtt {m i:Nat}{l:Iz}{a:Int} (h:∀ (k:Nat) (b:Int),k<i→l[k]?=some b→0≤b∧b<(m:Int)) (hi:l[i]?=some a) (ha:a<0∨(m:Int)≤a):Qfq m l=some i:=by unfold Qfq;have hl:=(Zs hi);rw [List.findIdx?_eq_some_iff_getElem];refine ⟨hl.1,?_,fun k hk=>?_⟩;{rw [hl.2];simp only [Bool.or_eq_true,decide_eq_true_eq];exact ha};{(have h1:k<l.length:=Nat.lt_trans hk hl.1);have:=h k l[k] hk (Zg h1);simp only [Bool.not_eq_true,Bool.or_eq_false_iff,decide_eq_false_iff_not];omega}
theorem Qpn.bd {N:Qak}{s t:Nat}{v:Int}(hok:Qar N)(h:Qpn N s t v):0≤v∧v≤1152921504606846976:=by
 rcases h with ⟨_,rfl⟩|⟨_,⟨h1,h2⟩|⟨rfl,_⟩⟩
 {omega};{obtain ⟨e,h3,h4⟩:=Qsq hok h1;have h5:=h2 e h3;have h6:=h1.pos (fun p q d h=>(h.bd hok).1);unfold MB at h4;omega};{exact ⟨Sd,Sd⟩}
def Rap (ns nt NC S m:Nat)(sl tl:Iz):Option (ByteArray×Int×Int) :=
 if 64<ns then some ((⟨#[109,97,110,121]⟩:ByteArray),1,4) else if 64<nt then some ((⟨#[109,97,110,121]⟩:ByteArray),0,4) else if NC≠S then some ((⟨#[109,97,110,121]⟩:ByteArray),0,1) else match Qfq m sl with|some i=>some ((⟨#[102,114,111,109]⟩:ByteArray),(i:Int),5)|none=>(Qfq m tl).map (fun (i:Nat)=>((⟨#[116,111]⟩:ByteArray),(i:Int),(5:Int)))
def Qju (na:Nat)(dnf:Nat→Option Int):Iz:=(List.range na).map fun q=>(dnf q).getD 1152921504606846976
theorem Qfr (na:Nat)(dnf:Nat→Option Int):(Qju na dnf).length=na:=by simp [Qju]
theorem Qeq {na q:Nat}(dnf:Nat→Option Int)(h:q<na):(Qju na dnf)[q]?=some ((dnf q).getD 1152921504606846976):=by unfold Qju;rw [Yt,List.getElem?_range h];rfl
theorem Rbq {na p:Nat}(dnf:Nat→Option Int)(c:Int)(h:p<na):(Qju na dnf).set p c=Qju na (fun q=>if q=p then some c else dnf q):=by
 refine List.ext_getElem? (fun i=>?_);rw [List.getElem?_set,Qfr];by_cases hi:i<na
 {rw [Qeq _ hi,Qeq _ hi];by_cases e:p=i;{subst e;simp [h]};{(have e':¬i=p:=fun x=>e x.symm);simp [e,e']}};{rw [Yd (by rw [Qfr];omega),Yd (by rw [Qfr];omega)];by_cases e:p=i;{omega};{simp [e]}}
structure SdI (St:Qbu) (M D:Int) (s:Nat) (dnf hp:Nat→Option Int):Prop where
 dij:Dij St s dnf hp
 dbd:∀ q e,dnf q=some e→0≤e∧e≤M
 hbd:∀ q e,hp q=some e→0≤e∧e≤M+D
structure SdJ (St:Qbu) (M D:Int) (s p:Nat) (c:Int) (os:Iz) (i:Nat) (dnf hp:Nat→Option Int):Prop where
 dij:Qlr St s dnf hp p c (fun r d=>∃ j,j<i∧os[j]?=some (r:Int)∧St p r d)
 dbd:∀ q e,dnf q=some e→0≤e∧e≤M
 hbd:∀ q e,hp q=some e→0≤e∧e≤M+D
 c0:0≤c∧c≤M
structure SdS (St:Qbu) (M D:Int) (s:Nat):Prop where
 st:∀ p q d,St p q d→0≤d∧d≤D
 fn:∀ p q d d',St p q d→St p q d'→d=d'
 bd:∀ p c,Rch St s p c→∃ e,Rch St s p e∧e≤M
 m0:0≤M
 d0:0≤D
section
variable {St:Qbu} {M D:Int} {s p:Nat} {c:Int} {os:Iz} {i:Nat} {dnf hp:Nat→Option Int}
theorem SdS.pos (h:SdS St M D s):∀ p q d,St p q d→0≤d:=fun p q d g=>(h.st p q d g).1
theorem SdI.init (h:SdS St M D s):SdI St M D s (fun _=>none) (Qem (fun _=>none) s 0):=by
 refine ⟨Dij.init St s (fun q=>by unfold Qem;split <;> rfl),fun q e hq=>(by cases hq),fun q e hq=>?_⟩;unfold Qem at hq;have:=h.m0;have:=h.d0;split at hq
 {simp at hq;omega};{cases hq}
theorem SdI.free (h:SdI St M D s dnf hp)(hp1:hp p=some c):dnf p=none:=by
 cases hd:dnf p with
 | none=>rfl
 | some e=>have:=h.dij.off p e hd;rw [hp1] at this;cases this
theorem SdI.take (hs:SdS St M D s)(h:SdI St M D s dnf hp)(hp1:hp p=some c)(hm:∀ q e,hp q=some e→c≤e) :
 SdJ St M D s p c os 0 (fun q=>if q=p then some c else dnf q) (fun q=>if q=p then none else hp q):=by have hcM:c≤M:=h.dij.bdTake hs.pos hs.bd hp1 hm;have hc0:0≤c:=(h.hbd p c hp1).1;refine ⟨(h.dij.take hs.pos hp1 hm).conv (fun r d ⟨j,hj,_⟩=>by omega),fun q e hq=>?_,fun q e hq=>?_,hc0,hcM⟩;{by_cases e1:q=p;{rw [if_pos e1] at hq;cases hq;exact ⟨hc0,hcM⟩};{rw [if_neg e1] at hq;exact h.dbd q e hq}};{by_cases e1:q=p;{rw [if_pos e1] at hq;cases hq};{rw [if_neg e1] at hq;exact h.hbd q e hq}}
theorem SdJ.skip (h:SdJ St M D s p c os i dnf hp){b:Nat} (hb:os[i]?=some (b:Int)) (hno:∀ d,¬St p b d):SdJ St M D s p c os (i+1) dnf hp :=
 ⟨h.dij.conv (fun r d ⟨j,hj,h1,h2⟩=>by
  by_cases e:j=i
  · subst e
    rw [hb] at h1;have e1:=Int.ofNat.inj (Yv h1);subst e1;exact absurd h2 (hno d)
  · exact ⟨j,Oo,h1,h2⟩),h.dbd,h.hbd,h.c0⟩
theorem sdGone (hs:SdS St M D s){b:Nat}{d0:Int} (hb:os[i]?=some (b:Int)) (hst:St p b d0) (r:Nat) (d:Int) (h:∃ j,j<i+1∧os[j]?=some (r:Int)∧St p r d):(∃ j,j<i∧os[j]?=some (r:Int)∧St p r d)∨(r=b∧d=d0):=by obtain ⟨j,hj,h1,h2⟩:=h;by_cases e:j=i;{subst e;rw [hb] at h1;have e1:=Int.ofNat.inj (Yv h1);subst e1;exact .inr ⟨rfl,hs.fn _ _ _ _ h2 hst⟩};{exact .inl ⟨j,Oo,h1,h2⟩}
theorem SdJ.off (hs:SdS St M D s)(h:SdJ St M D s p c os i dnf hp){b:Nat}{d0:Int} (hb:os[i]?=some (b:Int)) (hst:St p b d0) (hd:dnf b≠none):SdJ St M D s p c os (i+1) dnf hp :=
 ⟨(h.dij.put hst (.inl ⟨hd,fun e he=>h.dij.dm b e he _ ((h.dij.dr p c h.dij.at_).step hst),rfl⟩)).conv (sdGone hs hb hst),h.dbd,h.hbd,h.c0⟩
theorem SdJ.put (hs:SdS St M D s)(h:SdJ St M D s p c os i dnf hp){b:Nat}{d0:Int} (hb:os[i]?=some (b:Int)) (hst:St p b d0) (hd:dnf b=none):SdJ St M D s p c os (i+1) dnf (Qem hp b (c+d0)):=by
 obtain ⟨x,hx⟩:=Zx (c+d0);rw [←hx];have hne:∀ r,r≠b→Qem hp b x r=hp r:=fun r hr=>by unfold Qem;rw [if_neg hr]
 have hat0:hp b=none→Qem hp b x b=some x:=fun e=>by unfold Qem;rw [if_pos rfl,e]
 have hat1:∀ z,hp b=some z→Qem hp b x b=some (if z≤x then z else x):=fun z e=>by unfold Qem;rw [if_pos rfl,e]
 have hxb:0≤x∧x≤M+D:=by{have h1:=hs.st _ _ _ hst;have h2:=h.c0;omega};refine ⟨(h.dij.put hst (.inr ⟨hd,hne,?_⟩)).conv (sdGone hs hb hst),h.dbd,fun q e hq=>?_,h.c0⟩
 · cases e2:hp b with
   | none=>exact .inr ⟨fun e h=>(by cases h),by rw [hat0 e2,hx]⟩
   | some z =>by_cases e3:z≤x;{exact .inl ⟨z,rfl,Oo,by rw [hat1 z e2,if_pos e3]⟩};{exact .inr ⟨fun e h=>by cases h;omega,by rw [hat1 z e2,if_neg e3,hx]⟩}
 · by_cases e1:q=b
   · subst e1
     cases e2:hp q with
     | none=>rw [hat0 e2] at hq;cases hq;exact hxb
     | some z =>rw [hat1 z e2] at hq;simp only [Option.some.injEq] at hq;have:=h.hbd q z e2;split at hq <;> omega
   {rw [hne q e1] at hq;exact h.hbd q e hq}
theorem SdJ.all (h:SdJ St M D s p c os i dnf hp)(hi:os.length≤i) (hn:∀ q d,St p q d→∃ j:Nat,os[j]?=some (q:Int)):SdI St M D s dnf hp :=
 ⟨h.dij.done (fun q d hq=>by
  obtain ⟨j,hj⟩:=hn q d hq;exact ⟨j,by have:=(Zs hj).1;omega,hj,hq⟩),h.dbd,h.hbd⟩
theorem SdI.tell (hs:SdS St M D s)(h:SdI St M D s dnf hp)(he:∀ q,hp q=none)(t:Nat):Lst (Rch St s t) ((dnf t).getD 1152921504606846976):=by
 cases hd:dnf t with
 | none=>exact .inr ⟨rfl,fun c hc=>by
  obtain ⟨e,h1,_⟩:=h.dij.all hs.pos he hc;rw [hd] at h1
  cases h1⟩
 | some e=>exact .inl ⟨h.dij.dr t e hd,h.dij.dm t e hd⟩
end
def Raw (N:Qak)(s t v:Int):Prop:=((0≤s∧s<N.ar.length)∧(0≤t∧t<N.ar.length)∧Qpn N s.toNat t.toNat v)∨(¬((0≤s∧s<N.ar.length)∧0≤t∧t<N.ar.length)∧v=1152921504606846976)
def Qtc (N:Qak)(pts:Iz)(s:Int)(row:Iz):Prop:=row.length=pts.length∧∀ (i:Nat) t,pts[i]?=some t→∃ v,row[i]?=some v∧Raw N s t v
def Qpl (N:Qak)(pts:Iz) (ls:Lz):Prop:=ls.length=pts.length∧∀ (i:Nat) s,pts[i]?=some s→∃ row,ls[i]?=some row∧Qtc N pts s row
def FrmP (N:Qak)(s:Int)(row:Iz):Prop:=row.length=N.ar.length∧∀ t:Nat,t<N.ar.length→∃ v,row[t]?=some v∧Raw N s t v
section
variable {N:Qak} {s t v v' M D:Int} {pts row row':Iz} {ls ls':Lz}
theorem Raw.uniq (h:Raw N s t v)(g:Raw N s t v'):v=v':=by
 rcases h with ⟨h1,h2,h3⟩|⟨h1,h2⟩ <;> rcases g with ⟨g1,g2,g3⟩|⟨g1,g2⟩
 {exact h3.uniq g3};{exact absurd ⟨h1,h2⟩ g1};{exact absurd ⟨g1,g2⟩ h1};{omega}
theorem Raw.bd (hok:Qar N)(h:Raw N s t v):0≤v∧v≤1152921504606846976:=by
 rcases h with ⟨_,_,h⟩|⟨_,rfl⟩
 {exact h.bd hok};{omega}
theorem Qtc.uniq (h:Qtc N pts s row)(g:Qtc N pts s row'):row=row':=by exact Kbv
theorem Qpl.uniq (h:Qpl N pts ls)(g:Qpl N pts ls'):ls=ls':=by exact Kbv
theorem Qpl.sq (hok:Qar N)(h:Qpl N pts ls):sqB pts.length ls=true:=by refine sqB_all h.1 (fun i l hl=>?_);obtain ⟨r,hr,h1⟩:=h.2 i _ (Zg (by rw [←h.1];exact (Zs hl).1));rw [hl] at hr;cases hr;refine rowB_all h1.1 (fun k x hx=>?_);obtain ⟨v,hv,h2⟩:=h1.2 k _ (Zg (by rw [←h1.1];exact (Zs hx).1));rw [hx] at hv;cases hv;exact h2.bd hok
theorem Qqc.mod (h:Qqc N s.toNat pts row)(hs:0≤s∧s<N.ar.length) (hp:∀ (i:Nat) t,pts[i]?=some t→0≤t∧t<N.ar.length):Qtc N pts s row :=
 ⟨h.1,fun i t ht=>by
  have hb:=hp i t ht;obtain ⟨u,rfl⟩:∃ u:Nat,t=u:=⟨t.toNat,Oo⟩;obtain ⟨v,hv,h1⟩:=h.2 i u ht;exact ⟨v,hv,.inl ⟨hs,hb,h1⟩⟩⟩
theorem Qtc.snoc {i:Nat} (h:Qtc N (pts.take i) s row) (ht:pts[i]?=some t) (hv:Raw N s t v):Qtc N (pts.take (i+1)) s (row ++[v]):=by
 have hi:=(Zs ht).1;have hl:row.length=i:=by rw [h.1,Yw];omega
 have e:pts.take (i+1)=pts.take i ++[t]:=by rw [List.take_add_one,ht];rfl
 refine ⟨by rw [e];simp [h.1],fun k u hk=>?_⟩;rw [e] at hk;by_cases c:k<i
 {rw [Yc (by rw [Yw];omega)] at hk;obtain ⟨x,hx,h1⟩:=h.2 k u hk;exact ⟨x,by rw [Yc Oo];exact hx,h1⟩};{have:=(Zs hk).1;(rw [Yp,Yw,List.length_singleton] at this;obtain rfl:k=i:=Oo);rw [Yb (by rw [Yw];omega),show k-(pts.take k).length=0 by rw [Yw];omega] at hk;cases hk;exact ⟨v,by rw [Yb Oo,hl,Yy];rfl,hv⟩}
theorem SdI.frm {a:Nat}{dnf hp:Nat→Option Int}(ha:a<N.ar.length)(hw:wV N a≠1152921504606846976) (hs:SdS (StW N) M D a) (h:SdI (StW N) M D a dnf hp) (he:∀ q,hp q=none):FrmP N a (Qju N.ar.length dnf) :=
 ⟨Qfr _ _,fun t ht=>⟨_,Qeq dnf ht,.inl ⟨Oo,Oo,.inr ⟨hw,by simpa using h.tell hs he t⟩⟩⟩⟩
theorem Qzk (h:¬(0≤s∧s<N.ar.length)∨wV N s.toNat=1152921504606846976):FrmP N s (List.replicate N.ar.length 1152921504606846976) :=
 ⟨List.length_replicate,fun t ht=>⟨_,by rw [List.getElem?_replicate,if_pos ht],by
  by_cases hs:0≤s∧s<N.ar.length
  · exact .inl ⟨hs,Oo,.inl ⟨h.resolve_left (fun e=>e hs),rfl⟩⟩
  · exact .inr ⟨fun e=>hs e.1,rfl⟩⟩⟩
theorem sdS_W (hok:Qar N)(a:Nat):SdS (StW N) 70373039144960 4294967296 a :=
 ⟨fun _ _ _ h=>h.bd hok,fun _ _ _ _ h g=>by
  obtain ⟨y,h1,_,_,h2⟩:=h;obtain ⟨z,g1,_,_,g2⟩:=g;rw [h1] at g1
  cases g1
  rw [h2,g2],fun _ _ h=>by have:=Qsq hok h;unfold MB at this;exact this,Oo,Oo⟩
end
def Qha {α:Type}(f:Nat→α→Option Int):Nat→List α→Option (Nat×Int)
 | _,[]=>none
 | k,p::t=>match f (k+1) p with | some c=>some (k+1,c) | none=>Qha f (k+1) t
theorem Qcc {α:Type}{f:Nat→α→Option Int}{l:List α}{k:Nat}{p:α}{c:Int} (h:l[k]?=some p) (hc:f (k+1) p=some c):Qha f k (l.drop k)=some (k+1,c):=by obtain ⟨hk,rfl⟩:=Zs h;rw [List.drop_eq_getElem_cons hk];unfold Qha;rw [hc]
theorem Qfs {α:Type}{f:Nat→α→Option Int}{l:List α}{k:Nat}{p:α} (h:l[k]?=some p) (hc:f (k+1) p=none):Qha f k (l.drop k)=Qha f (k+1) (l.drop (k+1)):=by
 obtain ⟨hk,rfl⟩:=Zs h;rw [List.drop_eq_getElem_cons hk]
 conv=>lhs;unfold Qha
 rw [hc]
theorem Qhv {α:Type}{f:Nat→α→Option Int}{l:List α}{k:Nat}(h:l.length≤k):Qha f k (l.drop k)=none:=by rw [List.drop_of_length_le h];rfl
theorem Qnp {α:Type}{f:Nat→α→Option Int}:∀ {l:List α} {k:Nat},Qha f k l=none→∀ (i:Nat) p,l[i]?=some p→f (k+i+1) p=none
 | [],_,_,i,p,h=>by simp at h
 | x::l,k,h,i,p,hp=>by
  unfold Qha at h
  cases hx:f (k+1) x with
  | some c=>rw [hx] at h;cases h
  | none =>
   rw [hx] at h
   cases i with
   | zero=>cases hp;exact hx
   | succ i=>rw [show k+(i+1)+1=k+1+i+1 by omega];exact Qnp h i p (by simpa using hp)
theorem Qzl {α:Type}{f:Nat→α→Option Int}:∀ {l:List α} {k:Nat},(∀ (i:Nat) p,l[i]?=some p→f (k+i+1) p=none)→Qha f k l=none
 | [],_,_=>rfl
 | x::l,k,h=>by unfold Qha;rw [show f (k+1) x=none from h 0 x rfl];exact Qzl fun i p hp=>by rw [show k+1+i+1=k+(i+1)+1 by omega];exact h (i+1) p (by simpa using hp)
def Qeo (m:Int)(_:Nat)(p:Int×Int):Option Int:=if p.1<0∨m≤p.1 then some 5 else if p.2<0∨2147483648<p.2 then some 1 else none
def Qeb (b:Option (Nat×Int)):Option (ByteArray×Int×Int):=b.map fun p=>((⟨#[115,116,111,112]⟩:ByteArray),(p.1:Int),p.2)
def Qbf (m dep cap lim:Int) (st:Pz):Option (ByteArray×Int×Int) :=
 if dep<0∨m≤dep then some ((⟨#[106,111,98]⟩:ByteArray),0,5) else if cap<0∨2147483648<cap then some ((⟨#[106,111,98]⟩:ByteArray),1,1) else if lim<0∨1152921504606846976<lim then some ((⟨#[106,111,98]⟩:ByteArray),2,1) else if 32<st.length then some ((⟨#[106,111,98]⟩:ByteArray),3,4) else Qeb (Qha (Qeo m) 0 st)
def Qpu (cap lim:Int) (ls:Lz) (i:Nat) (p:Int×Int):Option Int :=
 if cap<p.2 then some 13 else if Qas ls 0 i ≥ 1152921504606846976∨Qas ls i 0 ≥ 1152921504606846976 then some 12 else if Qio (Qas ls 0 i) (Qas ls i 0) ≥ 1152921504606846976∨Qio (Qas ls 0 i) (Qas ls i 0) > lim then some 14 else none
def Qcm (cap lim:Int) (ls:Lz) (st:Pz):Option (ByteArray×Int×Int):=Qeb (Qha (Qpu cap lim ls) 0 st)
theorem Qrq {cap lim:Int} {ls:Lz} {st:Pz}:Qcm cap lim ls st=none↔Qra cap lim ls st:=by unfold Qcm Qeb;rw [Option.map_eq_none_iff];have hf:∀ i p,Qpu cap lim ls i p=none↔p.2≤cap∧Qas ls 0 i<1152921504606846976∧Qas ls i 0<1152921504606846976∧Qio (Qas ls 0 i) (Qas ls i 0)<1152921504606846976∧Qio (Qas ls 0 i) (Qas ls i 0)≤lim:=fun i p=>by{unfold Qpu;split;{simp;omega};split;{simp;omega};split;{simp;omega};{simp;omega}};constructor;{intro h i p hp;have:=Qnp h i p hp;rw [Yz] at this;exact (hf _ _).1 this};{intro h;exact Qzl fun i p hp=>by rw [Yz];exact (hf _ _).2 (h i p hp)}
structure Rdk (m dep cap lim:Int) (st:Pz):Prop where
 d:0≤dep∧dep<m
 c:0≤cap∧cap≤2147483648
 l:0≤lim∧lim≤1152921504606846976
 n:st.length≤32
 s:∀ (i:Nat) p,st[i]?=some p→(0≤p.1∧p.1<m)∧0≤p.2∧p.2≤2147483648
theorem Qex {m dep cap lim:Int} {st:Pz} (h:Qbf m dep cap lim st=none):Rdk m dep cap lim st:=by
 unfold Qbf at h;split at h
 {cases h};split at h
 {cases h};split at h
 {cases h};split at h
 {cases h};unfold Qeb at h;rw [Option.map_eq_none_iff] at h;refine ⟨Oo,Oo,Oo,Oo,fun i p hp=>?_⟩;have:=Qnp h i p hp;unfold Qeo at this;split at this
 {cases this};split at this
 {cases this};{omega}
def Qif (dep:Int) (st:Pz):Iz:=dep::st.map Prod.fst
theorem Qgq (dep:Int) (st:Pz):(Qif dep st).length=st.length+1:=by simp [Qif]
theorem Rdk.pts {m dep cap lim:Int} {st:Pz} (h:Rdk m dep cap lim st) (i:Nat) (t:Int) (ht:(Qif dep st)[i]?=some t):0≤t∧t<m:=by
 unfold Qif at ht
 cases i with
 | zero=>cases ht;exact h.d
 | succ i =>
  rw [List.getElem?_cons_succ,Yt] at ht
  cases hp:st[i]? with
  | none=>rw [hp] at ht;cases ht
  | some p=>rw [hp] at ht;cases ht;exact (h.s i p hp).1
theorem Rdk.ld {m dep cap lim:Int} {st:Pz} (h:Rdk m dep cap lim st):Qtb st:=fun p hp=>by obtain ⟨i,hi⟩:=Yr hp;exact (h.s i p hi).2
def ErP (w:World) (b:Option (ByteArray×Int×Int)) (e:Ending) (w':World):Prop:=(match b with|none=>e=.returned .nilIface|some (p,k,c)=>∃ v,e=.returned v∧Qci w' v [(p,k)] c)∧Bw w w'
theorem Qhk (m:Nat)(dep cap lim:Int)(A:Oz)(n c:Nat) (st:Pz) (w:World) (h:RdP w A n st) (hn:n≤1000000) :
 Calls prog 38 #[.int .i64 m,Qia dep cap lim A n c] w (ErP w (Qbf m dep cap lim st)):=by
 obtain ⟨jb,hjb⟩:=Zx (Qbf m dep cap lim st);have HJB:=Zh hjb;rw [←hjb];have HR:=Zh h;have HLN:=Zh h.1;clear h hjb;go_enter func38,ntmps38
 have HBL:=Zh (show Bw w (w.alloc (.cells #[.int .i64 dep,.int .i64 cap,.int .i64 lim,.slice A n c] 42)) from Qag);by_cases g1:dep<0
 {have HE:=Zh (show Qbf m dep cap lim st=some ((⟨#[106,111,98]⟩:ByteArray),0,5) from if_pos (.inl g1));exact Kaf};by_cases g2:dep ≥ (m:Int);{have HE:=Zh (show Qbf m dep cap lim st=some ((⟨#[106,111,98]⟩:ByteArray),0,5) from if_pos (.inr g2));exact Kaf};by_cases g3:cap<0
 {have HE:=Zh (show Qbf m dep cap lim st=some ((⟨#[106,111,98]⟩:ByteArray),1,1) by unfold Qbf;rw [if_neg Oo,if_pos (.inl g3)]);exact Kaf};by_cases g4:cap > 2147483648;{have HE:=Zh (show Qbf m dep cap lim st=some ((⟨#[106,111,98]⟩:ByteArray),1,1) by unfold Qbf;rw [if_neg Oo,if_pos (.inr g4)]);exact Kaf};by_cases g5:lim<0
 {have HE:=Zh (show Qbf m dep cap lim st=some ((⟨#[106,111,98]⟩:ByteArray),2,1) by unfold Qbf;rw [if_neg Oo,if_neg Oo,if_pos (.inl g5)]);exact Kaf};by_cases g6:lim > 1152921504606846976;{have HE:=Zh (show Qbf m dep cap lim st=some ((⟨#[106,111,98]⟩:ByteArray),2,1) by unfold Qbf;rw [if_neg Oo,if_neg Oo,if_pos (.inr g6)]);exact Kaf};by_cases g7:(n:Int) > 32;{have HE:=Zh (show Qbf m dep cap lim st=some ((⟨#[106,111,98]⟩:ByteArray),3,4) by unfold Qbf;rw [if_neg Oo,if_neg Oo,if_neg Oo,if_pos (by rw [HLN.o];omega)]);exact Kaf};have HJ0:=Zh (show jb=Qeb (Qha (Qeo m) 0 (st.drop 0)) by rw [HJB.o];unfold Qbf;rw [if_neg Oo,if_neg Oo,if_neg Oo,if_neg (by rw [HLN.o];omega)];rfl);go_wp2_with fail
 (refine Qai ?_;intro w1 hw1);rw [←hw1] at HBL;clear hw1;go_loopw [43] (fun q W=>∃ k:Nat,k≤n∧q=.int .i64 k∧jb=Qeb (Qha (Qeo m) k (st.drop k))∧Bw w W) (fun q _=>n-(intOf q).toNat)
 case atStart=>exact ⟨0,Nat.zero_le _,rfl,HJ0.o,HBL.o⟩
 case round =>
  clear HJ0 HBL HJB;obtain ⟨k,hk,rfl,hj,hb⟩:=hrel;have HJB:=Zh hj;have HBr:=Zh hb;clear hj hb;by_cases hlt:k<n
  rotate_left;{(obtain rfl:k=n:=Oo);(have i1:¬(k:Int)<k:=Oo);have HE:=Zh (show jb=none by rw [HJB.o,Qhv (by rw [HLN.o];exact Zn _)];rfl);(go_wp2_with fail);go_ret;rw [HE.o];exact ⟨rfl,HBr.o⟩};obtain ⟨sb,so,x,y,rfl,hx,hcx,hcy⟩:=HR.o.at_ hlt;have HX:=Zh hx;have j1:=Zc HBr.o (Zn _) hcx;have j2:=Zc HBr.o (Zn _) hcy;have i1:(k:Int)<n:=Oo
  have i2:0≤(k:Int):=Oo
  have wk:IntKind.i64.wrap ((k:Int)+1)=(k:Int)+1:=IntWalk.i64_in _ Oo;have HBL:=Zh (show Bw w (wr.alloc (.cells #[.int .i64 x,.int .i64 y] 90)) from Bel.alloc HBr.o);clear hx hcx hcy;by_cases g1:x<0
  {have HE:=Zh (show Qeb (Qha (Qeo m) k (st.drop k))=some ((⟨#[115,116,111,112]⟩:ByteArray),(k:Int)+1,5) by rw [Qcc HX.o (c:=5) (if_pos (.inl g1))];rfl);exact Kaf};by_cases g2:x ≥ (m:Int);{have HE:=Zh (show Qeb (Qha (Qeo m) k (st.drop k))=some ((⟨#[115,116,111,112]⟩:ByteArray),(k:Int)+1,5) by rw [Qcc HX.o (c:=5) (if_pos (.inr g2))];rfl);exact Kaf};by_cases g3:y<0
  {have HE:=Zh (show Qeb (Qha (Qeo m) k (st.drop k))=some ((⟨#[115,116,111,112]⟩:ByteArray),(k:Int)+1,1) by rw [Qcc HX.o (c:=1) (by unfold Qeo;rw [if_neg Sn,if_pos (.inl g3)])];rfl);exact Kaf};by_cases g4:y > 2147483648;{have HE:=Zh (show Qeb (Qha (Qeo m) k (st.drop k))=some ((⟨#[115,116,111,112]⟩:ByteArray),(k:Int)+1,1) by rw [Qcc HX.o (c:=1) (by unfold Qeo;rw [if_neg Sn,if_pos (.inr g4)])];rfl);exact Kaf};have HN:=Zh (Qfs HX.o (show Qeo m (k+1) (x,y)=none by unfold Qeo;rw [if_neg Sn,if_neg Sn]));go_wp2_with fail
  go_roundw;case rel=>exact ⟨k+1,Oo,by go_num,by rw [←HN.o];exact HJB.o,HBL.o⟩
  case measure=>simp [intOf];omega
theorem Rcr (n:Nat)(hn:n≤1000000000)(W:World):(Instr.makeSlice 64 (.int .i64 0) (.int .i64 (n:Int))).run prog W=.ok (.slice (some ⟨W.heap.size,0,none⟩) 0 n) (W.alloc (.cells (Qbg (.int .i64 0) n) 3)):=by
 obtain ⟨i,hi,hz,hs,hbb⟩:=info_parts Qbm;have hb':(i.bytes:Int)*(n:Int)≤281474976710656:=by rw [hbb];omega
 have hr:=run_make (P:=prog) W 64 3 i (.int .i64 0) underlying64 hi hz .i64 .i64 0 n (Int.le_refl _) Oo hb' Oo;simp only [Yl,Int.toNat_zero] at hr;have hm:madeCells (Value.int .i64 0).cells (n*i.size)=Qbg (.int .i64 0) n:=by{rw [hs,Nat.mul_one,show (Value.int .i64 0).cells=#[.int .i64 0] from rfl];apply Array.ext';rw [toList_madeCells_one];simp [Qbg]};rw [hm] at hr;exact hr
theorem Qvd {dep:Int} {st:Pz} {k:Nat} {p:Int×Int} (h:st[k]?=some p):Qae (Qif dep (st.take (k+1)))=Qae (Qif dep (st.take k)) ++Qae [p.1]:=by unfold Qif;rw [←Qbq,List.take_add_one,h];simp
def PtsP (w:World)(n:Nat)(pts:Iz)(e:Ending)(w':World):Prop:=(∃ R d,e=.returned (.slice R n d)∧RdI w' R n pts)∧Bw w w'
theorem Qgm (dep cap lim:Int)(A:Oz)(n c:Nat) (st:Pz) (w:World) (h:RdP w A n st) (hn:n≤1000000) :
 Calls prog 40 #[Qia dep cap lim A n c] w (PtsP w (n+1) (Qif dep st)):=by
 have HR:=Zh h;have HLN:=Zh h.1;have hmk:∀ W,(Instr.makeSlice 64 (.int .i64 0) (.int .i64 ((n:Int)+1))).run prog W=.ok (.slice (some ⟨W.heap.size,0,none⟩) 0 (n+1)) (W.alloc (.cells (Qbg (.int .i64 0) (n+1)) 3)):=fun W=>Rcr (n+1) Oo W
 clear h;go_enter func40,ntmps40
 obtain ⟨w1,hw1⟩:=Zx (w.alloc (.cells #[.int .i64 dep,.int .i64 cap,.int .i64 lim,.slice A n c] 42));have hb1:Bw w w1:=by rw [hw1];exact Qag
 have hB:Blk w1 w.heap.size 42 #[.int .i64 dep,.int .i64 cap,.int .i64 lim,.slice A n c]:=by rw [hw1];exact Blk.new _ _ _
 have hz1:w1.heap.size=w.heap.size+1:=by rw [hw1];simp
 obtain ⟨w2,hw2⟩:=Zx (w1.alloc (.cells (Qbg (.int .i64 0) (n+1)) 3));have hb2:Bw w1 w2:=by rw [hw2];exact Qag
 have hz2:w2.heap.size=w.heap.size+1+1:=by rw [hw2,←hz1];simp
 have ho2:Own w2 (w.heap.size+1) 3 1 (some ⟨w.heap.size+1,0,none⟩) 0 (n+1) []:=by rw [hw2,←hz1];exact Own.made (Blk.new _ _ _) (Zn _) Oo (by simp [Qbg])
 obtain ⟨w3,hw3⟩:=Zx (w2.alloc (.cells #[.int .i64 dep] 3));have hb3:Bw w2 w3:=by rw [hw3];exact Qag
 have hown:=ho2.below hb3;have hrd:Rds w3 1 (some ⟨w.heap.size+1+1,0,none⟩) 1 (Qae [dep]):=by rw [hw3,←hz2];exact (Blk.new w2 3 #[.int .i64 dep]).rds rfl
 have hsz:w.heap.size+1≤w3.heap.size:=by have:=hb3.size;omega
 have HB1:=Zh (hB.below (Zb hb2 hb3) hB.lt);have HBB:=Zh (show Bw w w3 from Zb hb1 (Zb hb2 hb3));have HW1:=Zh hw1;have HW2:=Zh hw2;have HW3:=Zh hw3;clear hw1 hw2 hw3 hb1 hb2 hb3 hB ho2 hz1 hz2;go_wp2_with (at_builtin;rw [←HW1.o,←HW2.o,←HW3.o];with_reducible refine Qam rfl (.tmp 11) (.tmp 14) 64 rfl 3 _ 1 8 Qbm underlying64 rfl Oo rfl rfl hown hrd (Qaq _) Oo Oo hsz ?_)
 intro R d w4 ho4 hg4 _;have HB4:=Zh (Zo HBB.o hg4 (hown.mono (Nat.le_succ _)) Oo);have HX4:=Zh (HB1.o.grown hg4 (hown.ne Oo));have HO4:=Zh (show Own w4 (w.heap.size+1) 3 1 R 1 d (Qae (Qif dep (st.take 0))) from by simpa [Qif] using ho4);obtain ⟨x0,x1,x2,x3⟩:=HX4.o.four;clear hown hrd hsz ho4 hg4 HB1 HBB HW1 HW2 HW3;go_wp2_with fail
 go_loopw [3,19] (fun z q W=>∃ (k:Nat) (R:Oz) (d:Nat),k≤n∧q=.int .i64 k∧z=.slice R (k+1) d∧Own W (w.heap.size+1) 3 1 R (k+1) d (Qae (Qif dep (st.take k)))∧Bw w W∧w.heap.size<W.heap.size) (fun _ q _=>n-(intOf q).toNat)
 case atStart=>exact ⟨0,R,d,Nat.zero_le _,rfl,rfl,HO4.o,HB4.o,HX4.o.lt⟩
 case round =>
  clear HO4 HB4 HX4 x0 x1 x2 x3;obtain ⟨k,R1,d1,hk,rfl,rfl,ho,hb,hz⟩:=hrel;have HO:=Zh ho;have HB:=Zh hb;have HZ:=Zh hz;clear ho hb hz;by_cases hlt:k<n
  rotate_left;{(obtain rfl:k=n:=Oo);(have i1:¬(k:Int)<k:=Oo);(go_wp2_with fail);go_ret;refine ⟨⟨R1,d1,rfl,?_⟩,HB.o⟩;have:=HO.o.rds.rdI;rwa [Ye (by rw [HLN.o];exact Zn _)] at this};obtain ⟨sb,so,x,y,rfl,hx,hcx,hcy⟩:=HR.o.at_ hlt;have j1:=Zc HB.o (Zn _) hcx;have j2:=Zc HB.o (Zn _) hcy;have i1:(k:Int)<n:=Oo
  have i2:0≤(k:Int):=Oo
  have HPT:=Zh (Qvd (dep:=dep) hx);obtain ⟨w5,hw5⟩:=Zx (wr.alloc (.cells #[.int .i64 x,.int .i64 y] 90));have hb5:Bw wr w5:=by rw [hw5];exact Qag
  have hz5:w5.heap.size=wr.heap.size+1:=by rw [hw5];simp
  obtain ⟨w6,hw6⟩:=Zx (w5.alloc (.cells #[.int .i64 x] 3));have hb6:Bw w5 w6:=by rw [hw6];exact Qag
  have hb56:=Zb hb5 hb6;have hown:=HO.o.below hb56;have hrd:Rds w6 1 (some ⟨wr.heap.size+1,0,none⟩) 1 (Qae [x]):=by rw [hw6,←hz5];exact (Blk.new w5 3 #[.int .i64 x]).rds rfl
  have hsz:w.heap.size+1≤w6.heap.size:=by have:=hb56.size;have:=HZ.o;omega
  have HBB:=Zh (Zb HB.o hb56);have HW5:=Zh hw5;have HW6:=Zh hw6;clear hw5 hw6 hb5 hb6 hb56 hz5 hx hcx hcy;go_wp2_with (at_builtin;rw [←HW5.o,←HW6.o];with_reducible refine Qam rfl (.tmp 23) (.tmp 26) 64 rfl 3 _ 1 8 Qbm underlying64 rfl Oo rfl rfl hown hrd (Qaq _) Oo Oo hsz ?_)
  intro R2 d2 w7 ho7 hg7 _;have HB7:=Zh (Zo HBB.o hg7 (hown.mono (Nat.le_succ _)) Oo);have HO7:=Zh (show Own w7 (w.heap.size+1) 3 1 R2 (k+1+1) d2 (Qae (Qif dep (st.take (k+1)))) from by rw [HPT.o];exact ho7);have HZ7:=Zh (show w.heap.size<w7.heap.size from Yu hsz hg7.size);clear hown hrd hsz ho7 hg7 j1 j2;go_wp2_with fail
  go_roundw;case rel=>exact ⟨k+1,R2,d2,Oo,by go_num,rfl,HO7.o,HB7.o,HZ7.o⟩
  case measure=>simp [intOf];omega
theorem Qjd (dep cap lim:Int)(A T:Oz)(n c tc:Nat) (st:Pz) (ls:Lz) (w:World) (h:RdP w A n st) (ht:RdT w T (n+1) ls) (hs:sqB (n+1) ls=true) (hn:n≤1000000000) :
 Calls prog 42 #[Qia dep cap lim A n c,.slice T (n+1) tc] w (ErP w (Qcm cap lim ls st)):=by
 have HQ:=Zh (show ∀ V,Bw w V→Calls prog 79 #[.int .i64 ((n:Int)+1),.slice T (n+1) tc] V fun e w'=>e=.returned .nilIface∧V=w' from fun V hV=>Qlu T (n+1) tc ls V (ht.below hV) hs Oo);have HS:=Zh (Qlq hs);obtain ⟨jb,hjb⟩:=Zx (Qcm cap lim ls st);have HJ0:=Zh (show jb=Qeb (Qha (Qpu cap lim ls) 0 (st.drop 0)) from hjb);have HLN:=Zh h.1;rw [←hjb];have HA:=Zh Qiz;clear hs hjb;go_enter func42,ntmps42
 go_wp2_with fail
 (refine Qab ?_;intro w1 hw1);have hb1:Bw w w1:=by rw [hw1];exact Qag
 have hB:Blk w1 w.heap.size 42 #[.int .i64 dep,.int .i64 cap,.int .i64 lim,.slice A n c]:=by rw [hw1];exact Blk.new _ _ _
 obtain ⟨b0,b1,b2,b3⟩:=hB.four;clear hw1 hB;with_reducible refine (HQ.o _ hb1).mono ?_
 rintro e w' ⟨rfl,rfl⟩;clear HQ;go_wp2_with fail
 go_loopw [23] (fun i W=>Bw w1 W∧∃ k:Nat,k≤n∧i=.int .i64 k∧jb=Qeb (Qha (Qpu cap lim ls) k (st.drop k))) (fun i _=>n-(intOf i).toNat)
 case atStart=>exact ⟨Zr _ _,0,Nat.zero_le _,rfl,HJ0.o⟩
 case round =>
  clear HJ0;obtain ⟨hbl,k,hk,rfl,hjb⟩:=hrel;have HJB:=Zh hjb;clear hjb;by_cases hlt:k<n
  · obtain ⟨sb,so,x,y,rfl,hx,hcx,hcy⟩:=h.at_ hlt;have HX:=Zh hx;have HFF:=Zh (show ∀ y0,Qpu cap lim ls (k+1) (x,y0)=if cap<y0 then some 13 else if Qas ls 0 (k+1) ≥ 1152921504606846976∨Qas ls (k+1) 0 ≥ 1152921504606846976 then some 12 else if Qio (Qas ls 0 (k+1)) (Qas ls (k+1) 0) ≥ 1152921504606846976∨Qio (Qas ls 0 (k+1)) (Qas ls (k+1) 0) > lim then some 14 else none from fun _=>rfl);obtain ⟨t0,u0,t1,u1,c1,rfl,r1,r2⟩:=ht.two HS.o (i:=0) (j:=k+1) Oo Oo;obtain ⟨t0',u0',t2,u2,c2,e1,r3,r4⟩:=ht.two HS.o (i:=k+1) (j:=0) Oo Oo;cases e1;rw [Nat.add_zero] at r1 r4;have hbw:Bw w wr:=Zb hb1 hbl;have j1:=Zc hbw (Zn _) hcx;have j2:=Zc hbw (Zn _) hcy;have y1:=Zc hbl (Zn _) b1;have y2:=Zc hbl (Zn _) b2;have y3:=Zc hbl (Zn _) b3;clear hx hcx hcy;have hA1:=Zh (HA.o (Qas ls 0 (k+1)) (Qas ls (k+1) 0));generalize Qio (Qas ls 0 (k+1)) (Qas ls (k+1) 0)=both at *;generalize Qas ls 0 (k+1)=there at *;generalize Qas ls (k+1) 0=back at *
    have HSX:=Zh (show ∀ V,Bw w V→V.cell? ⟨t0,u0,none⟩=some (.slice (some ⟨t1,u1,none⟩) (n+1) c1)∧V.cell? ⟨t1,u1+(k+1),none⟩=some (.int .i64 there)∧V.cell? ⟨t0,u0+(k+1),none⟩=some (.slice (some ⟨t2,u2,none⟩) (n+1) c2)∧V.cell? ⟨t2,u2,none⟩=some (.int .i64 back) from
     fun V hb=>⟨Zc hb (Zn _) r1,Zc hb (Zn _) r2,Zc hb (Zn _) r3,Zc hb (Zn _) r4⟩)
    (have i1:0≤(k:Int)+1:=Oo);(have i2:(k:Int)+1<n+1:=Oo);(have i5:0<(n:Int)+1:=Oo);(have n1:((k:Int)+1).toNat=k+1:=Oo);have e3:IntKind.i64.wrap ((k:Int)+1)=(k:Int)+1:=IntWalk.i64_in _ Oo;clear r1 r2 r3 r4;(go_wp2_with fail);(refine Qai ?_;intro W hW);(have hbW:Bw wr W:=by rw [hW];exact Qag);(have hbW2:Bw w W:=hbw.trans (hbW.mono hbw.size);have hbW1:Bw w1 W:=Zb hbl hbW;have p2:W.cell? ⟨wr.heap.size,1,none⟩=some (.int .i64 y):=by rw [hW];simp);have z1:=Zc hbW (Zn _) y1;have z2:=Zc hbW (Zn _) y2;clear hW y1 y2 y3 j1 j2;refine wp_region_held_drew (S:=fun V=>Bw w V) Kf Qag (fun _=>?_);refine tzd 0 28 ?_;refine tzd 4 32 ?_;refine tzd 8 36 ?_;refine tzb 12 40 ?_;refine tzb 14 8 ?_;refine Zd ?_;(go_wp2_with fail);(with_reducible refine (hA1.out _).mono ?_);rintro e w' ⟨rfl,rfl⟩;by_cases g1:y > cap;{have HE:=Zh (show Qeb (Qha (Qpu cap lim ls) k (st.drop k))=some ((⟨#[115,116,111,112]⟩:ByteArray),(k:Int)+1,13) by rw [Qcc HX.o (c:=13) (by rw [HFF.o];exact if_pos g1)];rfl);exact Kan};by_cases g2:there ≥ 1152921504606846976;{have HE:=Zh (show Qeb (Qha (Qpu cap lim ls) k (st.drop k))=some ((⟨#[115,116,111,112]⟩:ByteArray),(k:Int)+1,12) by rw [Qcc HX.o (c:=12) (by rw [HFF.o];rw [if_neg g1];exact if_pos (.inl g2))];rfl);exact Kan};by_cases g3:back ≥ 1152921504606846976;{have HE:=Zh (show Qeb (Qha (Qpu cap lim ls) k (st.drop k))=some ((⟨#[115,116,111,112]⟩:ByteArray),(k:Int)+1,12) by rw [Qcc HX.o (c:=12) (by rw [HFF.o];rw [if_neg g1];exact if_pos (.inr g3))];rfl);exact Kan};by_cases g4:both ≥ 1152921504606846976;{have HE:=Zh (show Qeb (Qha (Qpu cap lim ls) k (st.drop k))=some ((⟨#[115,116,111,112]⟩:ByteArray),(k:Int)+1,14) by rw [Qcc HX.o (c:=14) (by rw [HFF.o];rw [if_neg g1,if_neg (fun h=>h.elim g2 g3)];exact if_pos (.inl g4))];rfl);exact Kan};by_cases g5:both > lim;{have HE:=Zh (show Qeb (Qha (Qpu cap lim ls) k (st.drop k))=some ((⟨#[115,116,111,112]⟩:ByteArray),(k:Int)+1,14) by rw [Qcc HX.o (c:=14) (by rw [HFF.o];rw [if_neg g1,if_neg (fun h=>h.elim g2 g3)];exact if_pos (.inr g5))];rfl);exact Kan};have HN:=Zh (Qfs HX.o (show Qpu cap lim ls (k+1) (x,y)=none by rw [HFF.o,if_neg g1,if_neg (fun h=>h.elim g2 g3),if_neg (fun h=>h.elim g4 g5)]));(go_wp2_with fail);go_roundw;(case rel=>exact ⟨Zb hbW1 Qag,k+1,Oo,by go_num,by rw [←HN.o];exact HJB.o⟩);case measure=>simp [intOf];omega
  {(obtain rfl:k=n:=Oo);have HE:=Zh (show jb=none by rw [HJB.o,Qhv (by rw [HLN.o];exact Zn _)];rfl);(go_wp2_with fail);go_ret;rw [HE.o];exact ⟨rfl,Qag⟩}
def PlB (N:Qak)(dep cap lim:Int) (st:Pz) (b:Option (ByteArray×Int×Int)):Prop :=
 (∃ x,Qbf N.ar.length dep cap lim st=some x∧b=some x)∨(Qbf N.ar.length dep cap lim st=none∧∃ d,Qpl N (Qif dep st) d∧b=Qcm cap lim d st)
theorem PlB.uniq {N:Qak}{dep cap lim:Int} {st:Pz} {b b':Option (ByteArray×Int×Int)} (h:PlB N dep cap lim st b) (g:PlB N dep cap lim st b'):b=b':=by exact Kcg
