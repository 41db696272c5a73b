/- Qbl of the proof: MdU, Pd, Pe, Sf. -/
import Derived.Test.YtkaaakbejnlbgaaGreatDoorE26
set_option maxHeartbeats 2000000
set_option maxRecDepth 20000
namespace Go.Proofs.YtkaaakbejnlbgaaGreatDoor
open Go.RowKit Go.Proofs.Tryz
theorem Qtk.right {n:Nat}{NT:Qak}{dep cap lim:Int} {ls out:Lz} {st:Pz} (h:Qtk n cap lim ls st out) (hok:Qar NT) (ht:Qpl NT (Qif dep st) ls) (hn:st.length=n) (hf:Qra cap lim ls st):Qea n cap lim ls st out=true:=by obtain ⟨L,R,h1,h2,h3,h4,h5⟩:=h;have hs:=ht.sq hok;rw [Qgq,hn] at hs;exact (h5.right n cap lim ls st (Qqo hs hn hf h1 h3)).1
attribute [local go_sem ↓] Go.wp_at_zero Go.wp_at_succ
theorem most_any (A:Oz)(n c:Nat)(l:Iz)(w:World)(h:RdI w A n l)(hn:n≤1000000)(hb:∀ x∈l,0≤x∧x≤1000000) :
 Calls prog 171 #[.slice A n c] w fun e w'=>e=.returned (.int .i64 (Qay l))∧w=w':=by
 have HR:=Zh h;have HL:=Zh h.1;have HB:=Zh hb;clear h hb;go_enter func171,ntmps171
 go_wp2_with fail
 go_loop [3,4] (fun m q=>∃ k:Nat,k≤n∧q=.int .i64 k∧m=.int .i64 (Qay (l.take k))) (fun _ q=>n-(intOf q).toNat)
 case atStart=>exact ⟨0,Nat.zero_le _,rfl,rfl⟩
 case round =>
  obtain ⟨k,hk,rfl,rfl⟩:=hrel;by_cases hlt:k<n
  {obtain ⟨b,o,x,rfl,hx,hc⟩:=HR.o.at_ hlt;(have hxb:=HB.o x (Zm hx);have HNX:=Zh (Qie hx);have i1:0≤(k:Int):=Oo);(have i2:(k:Int)<n:=Oo);clear hx;generalize Qay (l.take k)=m at *;have HM:=Zh (show (if m<x+1 then x+1 else m)=max m (x+1) by split <;> omega);(go_wp2_with fail);(go_round);(case rel=>exact ⟨k+1,Oo,by go_num,by rw [HNX.o,←HM.o]⟩);case measure=>simp [intOf];omega};{(obtain rfl:n=k:=Oo);have HE:=Zh (show Qay (l.take n)=Qay l by rw [Ye (by rw [HL.o];exact Zn _)]);go_wp2;go_ret;exact ⟨Qav HE.o,rfl⟩}
def Qgx (ls:Lz) (i:Nat):Option  Iz:=if i=0 then none else ls[i-1]?
theorem Qye (ls:Lz):Qgx ls 0=none:=rfl
theorem Qjf (ls:Lz) (j:Nat):Qgx ls (j+1)=ls[j]?:=rfl
theorem Qxq {n:Nat} {p:Option  Iz} {l:Iz} (h:l.length≠n):Qfm n p l=1:=by unfold Qfm;rw [if_pos h]
theorem Qlc {n:Nat} {p:Option  Iz} {l:Iz} (h:l.length=n) (hn:¬(Qgz n l∧∀ q,p=some q→Qeh q l)):Qfm n p l=10:=by unfold Qfm;rw [if_neg (fun e=>e h),if_neg hn]
theorem Qqn {n:Nat} {p:Option  Iz} {l:Iz} (h:Qgz n l) (hn:∀ q,p=some q→Qeh q l):Qfm n p l=0:=by unfold Qfm;rw [if_neg (fun e=>e h.len),if_pos ⟨h,hn⟩]
theorem Qps (Q:Oz)(n L cq i:Nat) (ls:Lz) (l:Iz) (w:World) (h:RdT w Q L ls) (hl:ls[i]?=some l) (hn:n≤4096) (hL:L≤1000000) (hprev:∀ j p,i=j+1→ls[j]?=some p→p.length=n) :
 Calls prog 116 #[.int .i64 n,.agg #[.slice Q L cq],.int .i64 ((i:Int)+1),.slice none 0 0] w fun e w'=>e=.returned (.int .i64 (Qfm n (Qgx ls i) l))∧Bw w w':=by
 have hi:i<L:=by rw [←h.1];exact (Zs hl).1
 have HT:=Zh h;obtain ⟨b,o,A,m,c,l',rfl,hl',hc,hr,q1,q2⟩:=h.at_ hi;rw [hl] at hl';cases hl';have HR:=Zh hr;have HLEN:=Zh hr.1;have HLL:=Zh hl;have HPV:=Zh hprev;have hca:=fun ob=>Zc (show Bw w (w.alloc ob) from Qag) (Zn _) hc
 have i1:0≤(i:Int):=Oo
 have i2:(i:Int)<L:=Oo
 have i5:(i:Int)+1-1=i:=Oo
 have hmk:=Qdp n Oo;clear h hr hl hprev q1;by_cases hmn:m=n;rotate_left;{(have e1:((m:Int) != (n:Int))=true:=by simp;omega);(have e2:((m:Int) == (n:Int))=false:=by simp;omega);have HC:=Zh (Qxq (n:=n) (p:=Qgx ls i) (l:=l) (by rw [HLEN.o];exact hmn));(go_enter func116,ntmps116);(go_wp2_with fail);go_ret;exact ⟨Qav HC.o.symm,Qag⟩};subst hmn;go_enter func116,ntmps116
 go_wp2_with fail
 (refine Qai ?_;intro w1 hw1);have hb1:Bw w w1:=by rw [hw1];exact Qag
 have hQ:Blk w1 w.heap.size 29 #[.slice (some ⟨b,o,none⟩) L cq]:=by rw [hw1];exact Qbi
 have HR1:=Zh (HR.o.below hb1);clear hw1 hca;go_loop [10] (fun q=>∃ k:Nat,k≤m∧q=.int .i64 k∧∀ j x,j<k→l[j]?=some x→0≤x∧x<m) (fun q=>m-(intOf q).toNat)
 case atStart=>exact ⟨0,Nat.zero_le _,rfl,fun _ _ h=>absurd h (Nat.not_lt_zero _)⟩
 case round =>
  obtain ⟨k,hk,rfl,hall⟩:=hrel;have HA:=Zh hall;clear hall;by_cases hlt:k<m
  · obtain ⟨b',o',x,rfl,hx,hcx⟩:=HR1.o.at_ hlt;(have j1:0≤(k:Int):=Oo);(have j2:(k:Int)<m:=Oo);have HX:=Zh hx;clear hx;by_cases hok:0≤x∧x<m
    · have g0:=hok.1;have g1:=hok.2;have HOK:=Zh hok;clear hok;(go_wp2_with fail);go_round
      case rel=>exact ⟨k+1,Oo,by go_num,fun j y hj hy=>by
       by_cases e:j=k
       · subst e
         rw [HX.o] at hy
         cases hy
         exact HOK.o
       · exact HA.o j y Oo hy⟩
      case measure=>simp [intOf];omega
    {have HC:=Zh (Qlc (n:=m) (p:=Qgx ls i) (l:=l) HLEN.o (fun hh=>hok ⟨hh.1.lo x (Zm HX.o),hh.1.hi x (Zm HX.o)⟩));(by_cases hx0:x<0);{clear hok;(go_wp2_with fail);go_ret;exact ⟨Qav HC.o.symm,hb1⟩};{(have hx1:¬x<m:=Oo);(have hx2:x ≥ m:=Oo);clear hok;(go_wp2_with fail);go_ret;exact ⟨Qav HC.o.symm,hb1⟩}}
  · obtain rfl:m=k:=by omega
    have HN:=Zh (show ∀ x∈l,0≤x∧x<m from fun x hx=>by
     obtain ⟨j,hj⟩:=Yr hx;exact HA.o j x (by rw [←HLEN.o];exact (Zs hj).1) hj)
    clear HA;(go_wp2_with fail);(refine Qai ?_;intro w2 hw2);(have hb2:Bw w1 w2:=by rw [hw2];exact Qag);(have hQ2:=hQ.below hb2 hQ.lt;have hB2:Blk w2 w1.heap.size 3 (Qbr (Qwe (l.take 0) m)):=by rw [hw2,List.take_zero,Qtx];exact Blk.new _ _ _);have hbw2:=Zb hb1 hb2;have hz12:=hb1.size;clear hw2 hmk;(go_loopw [12] (fun q W=>Bw w1 W∧∃ k:Nat,k≤m∧q=.int .i64 k∧Blk W w1.heap.size 3 (Qbr (Qwe (l.take k) m))) (fun q _=>m-(intOf q).toNat));case atStart=>exact ⟨hb2,0,Nat.zero_le _,rfl,hB2⟩
    case round =>
     clear hb2 hB2 hQ2 hbw2;obtain ⟨hbl,k,hk,rfl,hB⟩:=hrel;(by_cases hlt2:k<m);{obtain ⟨b',o',x,rfl,hx,hcx⟩:=HR1.o.at_ hlt2;(have hxx:=HN.o x (Zm hx);obtain ⟨v,rfl⟩:∃ v:Nat,x=v:=⟨x.toNat,Oo⟩;have hv:v<m:=Oo);(have hcx2:=Zc hbl (Zn _) hcx;have c1:=hB.cellI (Qfb (l:=l.take k) hv);have c1f:=hB.frozen v;have d1:=Rep l k (v:Int);have HBN:=Zh (hB.setI (Qtw hx hv));have j1:0≤(k:Int):=Oo);(have j2:(k:Int)<m:=Oo);(have j3:0≤(v:Int):=Oo);(have j4:(v:Int)<m:=Oo);clear hx hcx hB hxx;generalize (l.take k).countP (fun x=>x == (v:Int))=p at *;have hbn:Bw w1 (wr.setCell ⟨w1.heap.size,v,none⟩ (.int .i64 ((p:Int)+1))):=hbl.setCell (Zn _) _;(go_wp2_with fail);go_roundw;(case rel=>exact ⟨hbn,k+1,Oo,by go_num,HBN.o⟩);case measure=>simp [intOf];omega}
     · (obtain rfl:m=k:=Oo);rw [Ye (by rw [HLEN.o];exact Zn _)] at hB;have m0:=Qcu l;have m1:=Qcr (l:=l) (n:=(m:Int)) (fun x hx=>(HN.o x hx).2) Oo;obtain ⟨w3,hw3⟩:=Zx wr;subst hw3;have hbw3:=Zb hb1 hbl;have HMO:=Zh (most_any A m c l w3 (HR.o.below hbw3) Oo (fun x hx=>by have:=HN.o x hx;omega));obtain ⟨M,hM⟩:∃ M:Nat,Qay l=M:=⟨(Qay l).toNat,Oo⟩;rw [hM] at HMO m0 m1;have HMM:=Zh hM;clear hM;(go_wp2_with fail);(go_loop [13] (fun q=>∃ k:Nat,k≤M∧q=.int .i64 k∧∀ c:Nat,c<k→(c:Int)∈l) (fun q=>M-(intOf q).toNat));case atStart=>exact ⟨0,Nat.zero_le _,rfl,fun _ h=>absurd h (Nat.not_lt_zero _)⟩
       case round =>
        obtain ⟨k,hk,rfl,hall⟩:=hrel;have HA:=Zh hall;clear hall;(go_wp2_with fail);(with_reducible refine HMO.o.mono ?_);rintro e w' ⟨rfl,rfl⟩;by_cases hlt3:k<M
        · (have hkm:k<m:=Oo);(have c1:=hB.cellI (Qfb (l:=l) hkm);have j1:0≤(k:Int):=Oo);(have j2:(k:Int)<m:=Oo);have HCT:=Zh (show 0<l.countP (fun x=>x == (k:Int))↔(k:Int)∈l from by rw [List.countP_pos_iff];simp);generalize l.countP (fun x=>x == (k:Int))=p at *;by_cases hp:p=0
          · subst hp
            have HC:=Zh (Qlc (n:=m) (p:=Qgx ls i) (l:=l) HLEN.o (fun hh=>by
             have:=HCT.o.2 (hh.1.all k (by rw [HMM.o];omega));omega))
            (go_wp2_with fail);go_ret;exact ⟨Qav HC.o.symm,hbw3⟩
          · (have e1:((p:Int) == 0)=false:=by simp;exact hp);have HP:=Zh (HCT.o.1 Oo);clear hp;(go_wp2_with fail);go_round
            case rel=>exact ⟨k+1,Oo,by go_num,fun c hc=>by
             by_cases e:c=k
             · subst e;exact HP.o
             · exact HA.o c Oo⟩
            case measure=>simp [intOf];omega
        · (obtain rfl:M=k:=Oo);have HLV:=Zh (show Qgz m l from ⟨HLEN.o,fun x hx=>(HN.o x hx).1,fun x hx=>(HN.o x hx).2,fun c hc=>HA.o c (by rw [HMM.o] at hc;omega)⟩);have hQ3:=hQ.below hbl hQ.lt;clear HA HN hB;have q0:=hQ3.cell 0;simp only [Yo,Yn] at q0;have HRw:=Zh (HR.o.below hbw3);by_cases hi0:i=0;{have HC:=Zh (Qqn (n:=m) (p:=Qgx ls i) HLV.o (fun q hq=>by rw [hi0,Qye] at hq;cases hq));(have e1:¬((i:Int)+1 > 1):=Oo);(have e2:¬(0<i):=Oo);(have e3:¬((i:Int) > 0):=Oo);clear hi0;have hb99:Bw w3 w3:=Zr _ _;(by_cases hm0:0<m);{(skip);exact Kcz};{(skip);exact Kcz}}
          · obtain ⟨j,rfl⟩:∃ j,i=j+1:=⟨i-1,Oo⟩;obtain ⟨bp,op,A',m',c',p,e,hp,hcp,hrp,q1',q2'⟩:=HT.o.at_ (show j<L by omega);cases e;(obtain rfl:m=m':=by rw [←hrp.1];exact (HPV.o j p rfl hp).symm);(have HPP:=Zh hp;have HRp:=Zh (hrp.below hbw3);have HCP:=Zh (Zc hbw3 (Zn _) hcp);have i3:((j:Int)+1+1)-2=(j:Int):=Oo);(have i4:0≤(j:Int):=Oo);(have i6:(j:Int)<L:=Oo);(have i7:(j:Int)+1+1 > 1:=Oo);have HLp:=Zh hrp.1;clear hrp hp hcp q1' hi0;(go_wp2_with fail);(go_loopw [14] (fun q W=>Bw w3 W∧∃ k:Nat,k≤m∧q=.int .i64 k∧∀ (a v:Nat) (x y u z:Int),a<k→p[a]?=some x→p[v]?=some y→l[a]?=some u→l[v]?=some z→x≤y→u≤z) (fun q _=>m-(intOf q).toNat));case atStart=>exact ⟨Zr _ _,0,Nat.zero_le _,rfl,fun _ _ _ _ _ _ h=>absurd h (Nat.not_lt_zero _)⟩
            case round =>
             obtain ⟨hbr,k,hk,rfl,hall⟩:=hrel;have HA:=Zh hall;clear hall;by_cases hlt4:k<m
             · obtain ⟨pb,po,x,rfl,hx,hcx⟩:=HRp.o.at_ hlt4;(obtain ⟨lb,lo,u,rfl,hu,hcu⟩:=HRw.o.at_ hlt4;have k1:0≤(k:Int):=Oo);(have k2:(k:Int)<m:=Oo);have HX:=Zh hx;have HU:=Zh hu;clear hx hu;obtain ⟨wo,hwo⟩:=Zx wr;subst hwo;(go_wp2_with fail);(go_loopw [15] (fun q W=>Bw w3 W∧∃ v:Nat,v≤m∧q=.int .i64 v∧∀ (v':Nat) (y z:Int),v'<v→p[v']?=some y→l[v']?=some z→x≤y→u≤z) (fun q _=>m-(intOf q).toNat));case atStart=>exact ⟨hbr,0,Nat.zero_le _,rfl,fun _ _ _ h=>absurd h (Nat.not_lt_zero _)⟩
               case round =>
                clear hbr;obtain ⟨hbr,v,hv,rfl,hall⟩:=hrel;have HV:=Zh hall;clear hall;by_cases hlt5:v<m
                · obtain ⟨pb',po',y,e,hy,hcy⟩:=HRp.o.at_ hlt5;cases e;obtain ⟨lb',lo',z,e,hz,hcz⟩:=HRw.o.at_ hlt5;cases e;(have HY:=Zh hy;have HZ:=Zh hz;have q0':=Zc hbr (Zn _) q0;have hcp':=Zc hbr (Zn _) HCP.o;have hcx':=Zc hbr (Zn _) hcx;have hcu':=Zc hbr (Zn _) hcu;have hcy':=Zc hbr (Zn _) hcy;have hcz':=Zc hbr (Zn _) hcz;have k3:0≤(v:Int):=Oo);(have k4:(v:Int)<m:=Oo);clear hy hz hcy hcz;by_cases hxy:x≤y
                  · by_cases huz:u > z
                    · have HC:=Zh (Qlc (n:=m) (p:=Qgx ls (j+1)) (l:=l) HLEN.o (fun hh=>by
                       have:=hh.2 p (by rw [Qjf];exact HPP.o) k v x y u z HX.o HY.o HU.o HZ.o hxy;omega))
                      (have e1:decide (x≤y)=true:=by simpa using hxy);(go_wp2_with fail);(go_quiet (fail));(go_wp2_with fail);go_ret;exact ⟨Qav HC.o.symm,Zb hbw3 (Qbd hbr _)⟩
                    · (have e1:decide (x≤y)=true:=by simpa using hxy);have HO:=Zh huz;(go_wp2_with fail);(go_quiet (fail));(go_wp2_with fail);go_roundw
                      case rel=>exact ⟨Qbd hbr _,v+1,Oo,by go_num,fun v' y' z' hv' h1 h2 h3=>by
                       by_cases e:v'=v
                       · subst e
                         rw [HZ.o] at h2
                         cases h2
                         have:=HO.o;omega
                       · exact HV.o v' y' z' Oo h1 h2 h3⟩
                      case measure=>simp [intOf];omega
                  · (have e1:decide (x≤y)=false:=by simpa using hxy);have HO:=Zh hxy;(go_wp2_with fail);(go_quiet (fail));(go_wp2_with fail);go_roundw
                    case rel=>exact ⟨Qbd hbr _,v+1,Oo,by go_num,fun v' y' z' hv' h1 h2 h3=>by
                     by_cases e:v'=v
                     · subst e
                       rw [HY.o] at h1
                       cases h1
                       have:=HO.o;omega
                     · exact HV.o v' y' z' Oo h1 h2 h3⟩
                    case measure=>simp [intOf];omega
                · (obtain rfl:m=v:=Oo);(go_wp2_with fail);go_roundw
                  case rel=>exact ⟨hbr,k+1,Oo,by go_num,fun a v x' y u' z ha h1 h2 h3 h4 h5=>by
                   by_cases e:a=k
                   · subst e
                     rw [HX.o] at h1;rw [HU.o] at h3
                     cases h1
                     cases h3
                     exact HV.o v y z (by rw [←HLp.o];exact (Zs h2).1) h2 h4 h5
                   · exact HA.o a v x' y u' z Oo h1 h2 h3 h4 h5⟩
                  case measure=>simp [intOf];omega
             · obtain rfl:m=k:=by omega
               have HC:=Zh (Qqn (n:=m) (p:=Qgx ls (j+1)) HLV.o (fun q hq=>by
                rw [Qjf,HPP.o] at hq
                cases hq
                intro a v x y u z h1 h2 h3 h4 h5;exact HA.o a v x y u z (by rw [←HLp.o];exact (Zs h1).1) h1 h2 h3 h4 h5))
               clear HA;(go_wp2_with fail);have hb99:=hbr;exact Kbd
theorem Qxp {n:Nat} {p:Option  Iz} {l:Iz} (h:Qfm n p l=0):Qgz n l∧∀ q,p=some q→Qeh q l:=by
 unfold Qfm at h;split at h
 {cases h};{(split at h);{assumption};{cases h}}
theorem Qrj (Q:Oz)(n L cq:Nat) (ls:Lz) (w:World) (h:RdT w Q L ls) :
 Calls prog 67 #[.int .i64 n,.agg #[.slice Q L cq],.slice none 0 0] w fun e w'=>Qca (Qbt n ls) e∧Bw w w':=by
 have HT:=Zh h;clear h;by_cases q0:(n:Int) > 4096;{(go_enter func67,ntmps67);(go_wp2_with fail);(refine Qab ?_;intro w5 hw5);(have hB5:Blk w5 (w.heap.size+1) 53 #[.slice none 0 0,.int .i64 0]:=by rw [hw5];exact Qbi);(have hb5:Bw w w5:=by rw [hw5];exact Qag);exact Kba};by_cases q1:(L:Int) > 6;{(go_enter func67,ntmps67);(go_wp2_with fail);(refine Qab ?_;intro w5 hw5);(have hB5:Blk w5 (w.heap.size+1) 53 #[.slice none 0 0,.int .i64 0]:=by rw [hw5];exact Qbi);(have hb5:Bw w w5:=by rw [hw5];exact Qag);exact Kba};by_cases q2:L=0;{(have j1:((L:Int) == 0)=true:=by simp;exact q2);(go_enter func67,ntmps67);(go_wp2_with fail);(refine Qab ?_;intro w5 hw5);(have hB5:Blk w5 (w.heap.size+1) 53 #[.slice none 0 0,.int .i64 0]:=by rw [hw5];exact Qbi);(have hb5:Bw w w5:=by rw [hw5];exact Qag);(clear hw5;with_reducible refine (Qax _ _ _ _).mono ?_);rintro e w2 ⟨⟨A4,n4,m4,rfl,hg4⟩,hb⟩;have hB2:=Blk.below hB5 hb hB5.lt;obtain ⟨c0,c1,f0,f1⟩:=hB2.two;have hb2:Bw w w2:=Zb hb5 hb;(go_wp2_with fail);refine bodyPost_ret (v:=.agg #[.slice A4 n4 m4,.int .i64 1]) (by simp [results,results67,go_sem,c0,c1]) rfl ?_;exact Kag};have j1:((L:Int) == 0)=false:=by simp;exact q2
 go_enter func67,ntmps67
 go_wp2_with fail
 (refine Qai ?_;intro w1 hw1);have hb1:Bw w w1:=by rw [hw1];exact Qag
 have hQ:Blk w1 w.heap.size 29 #[.slice Q L cq]:=by rw [hw1];exact Qbi
 have hB:Blk w1 (w.heap.size+1) 53 #[.slice none 0 0,.int .i64 0]:=by rw [hw1];exact Qbi
 clear hw1;go_loopw [7] (fun q W=>Bw w W∧Blk W w.heap.size 29 #[.slice Q L cq]∧Blk W (w.heap.size+1) 53 #[.slice none 0 0,.int .i64 0]∧∃ i:Nat,i≤L∧q=.int .i64 ((i:Int)+1)∧∀ (j:Nat) (l:Iz),j<i→ls[j]?=some l→Qgz n l∧∀ q,Qgx ls j=some q→Qeh q l) (fun q _=>L+1-(intOf q).toNat)
 case atStart=>exact ⟨hb1,hQ,hB,0,Nat.zero_le _,rfl,fun _ _ h=>absurd h (Nat.not_lt_zero _)⟩
 case round =>
  clear hb1 hQ hB;obtain ⟨hbl,hQ,hB,i,hi,rfl,hall⟩:=hrel;have HA:=Zh hall;clear hall;have y0:=hQ.cell 0;simp only [Yo,Yn] at y0;by_cases hlt:i<L
  · obtain ⟨l,hl⟩:∃ l,ls[i]?=some l:=⟨_,Zg (by rw [HT.o.1];exact hlt)⟩;(have HCL:=Zh (Qps Q n L cq i ls l wr (HT.o.below hbl) hl Oo Oo (fun j p e hp=>(HA.o j p Oo hp).1.len));have HLL:=Zh hl;have HI:=Zh (@Qxp n (Qgx ls i) l);have i1:(i:Int)+1≤L:=Oo);clear hl;generalize Qfm n (Qgx ls i) l=code at *;(go_wp2_with fail);(with_reducible refine HCL.o.mono ?_);rintro e w2 ⟨rfl,hb2⟩;have hQ2:=hQ.below hb2 hQ.lt;have hB2:=hB.below hb2 hB.lt;have hbw2:=Zb hbl hb2;clear hQ hB y0 HCL hb2;by_cases hc:code=0
    · subst hc;have HO:=Zh (HI.o rfl);clear HI;(go_wp2_with fail);go_roundw
      case rel=>exact ⟨hbw2,hQ2,hB2,i+1,Oo,by go_num,fun j l' hj hl'=>by
       by_cases e:j=i
       · subst e
         rw [HLL.o] at hl'
         cases hl'
         exact HO.o
       · exact HA.o j l' Oo hl'⟩
      case measure=>simp [intOf];omega
    {(have e1:(code == 0)=false:=by simpa using hc);(have e2:(code != 0)=true:=by simpa using hc);have HC:=Zh hc;clear hc;(go_wp2_with fail);(with_reducible refine (Qax _ _ _ _).mono ?_);rintro e w3 ⟨⟨A4,n4,m4,rfl,hg4⟩,hb3⟩;have hB3:=hB2.below hb3 hB2.lt;obtain ⟨c0,c1,f0,f1⟩:=hB3.two;have hbw3:=Zb hbw2 hb3;(go_wp2_with fail);refine bodyPost_ret (v:=.agg #[.slice A4 n4 m4,.int .i64 code]) (by simp [results,results67,go_sem,c0,c1]) rfl ?_;exact ⟨Qca.no HC.o,Qag⟩}
  · (obtain rfl:L=i:=Oo);obtain ⟨c0,c1,f0,f1⟩:=hB.two;have zB:=hB.lt
    have HP:=Zh (show Qbt n ls from ⟨by rw [HT.o.1];omega,by rw [HT.o.1];omega,fun l hl=>by
     obtain ⟨j,hj⟩:=Yr hl;exact (HA.o j l (by rw [←HT.o.1];exact (Zs hj).1) hj).1,fun j p l hp hl=>(HA.o (j+1) l (by rw [←HT.o.1];exact (Zs hl).1) hl).2 p (by rw [Qjf];exact hp)⟩)
    clear HA;(go_wp2_with fail);refine bodyPost_ret (v:=.agg #[.slice none 0 0,.int .i64 0]) (by simp [results,results67,go_sem,c0,c1]) rfl ?_;exact ⟨⟨_,_,_,_,rfl,.inl ⟨rfl,HP.o⟩⟩,Qag⟩
structure FewP (ls:Lz):Prop where
 l:ls.length≤10
 r:∀ l∈ls,l.length≤60
theorem fewP_any (Q:Oz)(L cq:Nat) (ls:Lz) (w:World) (h:RdT w Q L ls) (hL:L≤9223372036854775807) :
 Calls prog 66 #[.agg #[.slice Q L cq]] w fun e w'=>Qkr (FewP ls) e∧Bw w w':=by
 have HT:=Zh h;have HLE:=Zh h.1;clear h;go_enter func66,ntmps66
 go_wp2_with fail
 (refine Qai ?_;intro w1 hw1);have hb1:Bw w w1:=by rw [hw1];exact Qag
 have hQ:Blk w1 w.heap.size 29 #[.slice Q L cq]:=by rw [hw1];exact Qbi
 have H1:=Zh (HT.o.below hb1);clear hw1;have y0:=hQ.cell 0;simp only [Yo,Yn] at y0;go_loop [3] (fun q=>∃ i:Nat,i≤L∧q=.int .i64 i∧∀ j l,j<i→ls[j]?=some l→l.length≤60) (fun q=>L-(intOf q).toNat)
 case atStart=>exact ⟨0,Nat.zero_le _,rfl,fun _ _ h=>absurd h (Nat.not_lt_zero _)⟩
 case round =>
  obtain ⟨i,hi,rfl,hall⟩:=hrel;have HA:=Zh hall;clear hall;by_cases hlt:i<L
  · obtain ⟨b,o,A,n,c,l,rfl,hl,hc,hr,q1,q2⟩:=H1.o.at_ hlt;(have i1:0≤(i:Int):=Oo);(have i2:(i:Int)<L:=Oo);have HLL:=Zh hl;have HR:=Zh hr.1;clear hl hr;by_cases q3:(n:Int) > 60;{(go_wp2_with fail);go_ret;exact ⟨⟨false,rfl,fun h=>by cases h⟩,hb1⟩}
    · (go_wp2_with fail);go_round
      case rel=>exact ⟨i+1,Oo,by go_num,fun j l' hj hl'=>by
       by_cases e:j=i
       · subst e
         rw [HLL.o] at hl'
         cases hl'
         rw [HR.o];omega
       · exact HA.o j l' Oo hl'⟩
      case measure=>simp [intOf];omega
  {(obtain rfl:L=i:=Oo);(go_wp2_with fail);go_ret;refine ⟨⟨_,rfl,fun h=>⟨by rw [HLE.o];have:=of_decide_eq_true h;omega,fun l hl=>?_⟩⟩,hb1⟩;obtain ⟨j,hj⟩:=Yr hl;exact HA.o j l (by rw [←HLE.o];exact (Zs hj).1) hj}
theorem Rgq (Q:Oz)(n L cq:Nat) (ls:Lz) (w:World) (h:RdT w Q L ls) (hL:L≤9223372036854775807) :
 Calls prog 35 #[.int .i64 n,.agg #[.slice Q L cq]] w fun e w'=>Qkr (FewP ls∧n≤60∧Qbt n ls) e∧Bw w w':=by
 have HT:=Zh h;clear h;go_enter func35,ntmps35
 go_wp2_with fail
 (refine Qab ?_;intro w1 hw1);have hb1:Bw w w1:=by rw [hw1];exact Qag
 have hQ:Blk w1 w.heap.size 29 #[.slice Q L cq]:=by rw [hw1];exact Qbi
 clear hw1;with_reducible refine (fewP_any Q L cq ls w1 (HT.o.below hb1) hL).mono ?_
 rintro e w2 ⟨⟨bb,rfl,hf⟩,hb2⟩;have hbw2:=Zb hb1 hb2;have y0:=(hQ.below hb2 hQ.lt).cell 0;simp only [Yo,Yn] at y0;clear hQ hb2;cases bb;{(go_wp2_with fail);exact Kdt};have HF:=Zh (hf rfl);clear hf;by_cases q0:(n:Int)≤60;rotate_left;{(go_wp2_with fail);exact Kdt};go_wp2_with fail
 with_reducible refine (Qrj Q n L cq ls w2 (HT.o.below hbw2)).mono ?_
 rintro e w3 ⟨⟨A4,k4,c4,x,rfl,hx⟩,hb3⟩;have hbw3:=Zb hbw2 hb3;have hfe:=Qmo A4 k4 c4 x w3;clear y0;rcases hx with ⟨rfl,hG⟩|hx
 {have HG:=Zh hG;clear hG;(go_wp2_with fail);go_ret;exact ⟨⟨true,rfl,fun _=>⟨HF.o,Oo,HG.o⟩⟩,hbw3⟩};{(go_wp2_with fail);go_ret;exact ⟨⟨_,rfl,fun h=>absurd (by simpa using h) hx⟩,hbw3⟩}
structure MayOk (N:Qak) (ls:Lz):Prop where
 small:Rdm N
 few:FewP ls
 part:Qbt N.vs.length ls
theorem Quw (A B C Q:Oz)(n m k c d e L cq:Nat)(N:Qak) (ls:Lz) (w:World) (h:Qcp w A B C n m k N) (hk:k≤9223372036854775807) (hq:RdT w Q L ls) (hL:L≤9223372036854775807) :
 Calls prog 10 #[.agg #[.slice A n c,.slice B m d,.slice C k e],.agg #[.slice Q L cq]] w fun e w'=>Qkr (MayOk N ls) e∧Bw w w':=by
 have HH:=Zh h;have HT:=Zh hq;have HLV:=Zh h.1.1;clear h hq;go_enter func10,ntmps10
 go_wp2_with fail
 (refine Qab ?_;intro w1 hw1);have hb1:Bw w w1:=by rw [hw1];exact Qag
 have hN:Blk w1 w.heap.size 26 #[.slice A n c,.slice B m d,.slice C k e]:=by rw [hw1];exact Qbi
 have hQ:Blk w1 (w.heap.size+1) 29 #[.slice Q L cq]:=by rw [hw1];exact Qbi
 clear hw1;with_reducible refine (Qox A B C n m k c d e N w1 (HH.o.below hb1) hk).mono ?_
 rintro r w2 ⟨⟨bb,rfl,hf⟩,hb2⟩;have hbw2:=Zb hb1 hb2;have y0:=(hQ.below hb2 hQ.lt).cell 0;simp only [Yo,Yn] at y0;obtain ⟨n0,n1,n2⟩:=(hN.below hb2 hN.lt).three;clear hQ hb2 hN;cases bb;{(go_wp2_with fail);exact Kdt};have HF:=Zh (hf rfl);clear hf;go_wp2_with fail
 with_reducible refine (Rgq Q n L cq ls w2 (HT.o.below hbw2) hL).mono ?_
 rintro r w3 ⟨⟨bb,rfl,hf⟩,hb3⟩;have HF2:=Zh hf;have hbw3:=Zb hbw2 hb3;clear hf;go_wp2_with fail
 go_ret;exact ⟨⟨bb,rfl,fun h=>⟨HF.o,(HF2.o h).1,by rw [HLV.o];exact (HF2.o h).2.2⟩⟩,hbw3⟩
theorem Qkl {N:Qak} {ls:Lz} (h:MayOk N ls):Qcy (Qah N.ar ls)≤1000000000:=by have hA:=h.small.a;have hv:=h.small.v;have h6:=h.part.l6;have hx:∀ x∈(Qah N.ar ls).map Qfe,x≤194400:=fun z hz=>by{obtain ⟨row,hr,rfl⟩:=List.mem_map.1 hz;obtain ⟨l,hl,rfl⟩:=List.mem_map.1 hr;have hm:∀ y∈(Qaf N.ar l).map szG,y≤8100:=fun y hy=>by{obtain ⟨x,hx,rfl⟩:=List.mem_map.1 hy;obtain ⟨c,hc⟩:=Yr hx;have g:=Qcd hc;unfold szG;have:=Nat.mul_le_mul (show x.1.length≤90 by omega) (show x.2.length≤90 by omega);omega};have h1:=Ran hm;have h2:=h.part.lvl l hl;have h3:=Qcr (l:=l) (n:=(N.vs.length:Int)) (fun x hx=>h2.hi x hx) Oo;rw [List.length_map,Qau] at h1;have h4:(Qay l).toNat*8100≤24*8100:=Nat.mul_le_mul_right _ Oo;unfold Qfe;omega};have h1:=Ran hx;rw [List.length_map,show (Qah N.ar ls).length=ls.length by simp [Qah]] at h1;have h4:ls.length*194400≤6*194400:=Nat.mul_le_mul_right _ Oo;unfold Qcy;omega
