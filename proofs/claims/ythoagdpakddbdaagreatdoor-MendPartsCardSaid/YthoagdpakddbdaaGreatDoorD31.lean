/- Parts of the proof: Pd. -/
import Derived.Test.YthoagdpakddbdaaGreatDoorD1
import Derived.Test.YthoagdpakddbdaaGreatDoorD10
namespace Go.Proofs.YthoagdpakddbdaaGreatDoor
open Go.RowKit Go.Proofs.Tryz
attribute [local go_sem ↓] Go.wp_at_zero Go.wp_at_succ
set_option maxHeartbeats 400000 in
theorem Qst (A:Option Addr)(n c:Nat)(l:List Int)(w:World)(h:RdI w A n l)(hn:n≤1000000)(hb:∀ x∈l,0≤x∧x≤1000000) :
 Calls prog 104 #[.slice A n c] w fun e w'=>e=.returned (.int .i64 (Qai l))∧w=w':=by
 have HR:=Zh h;have HL:=Zh h.1;have HB:=Zh hb;clear h hb
 go_enter func104,ntmps104
 go_wp2_with fail
 go_loop [3,4] (fun m q=>∃ k:Nat,k≤n∧q=.int .i64 k∧m=.int .i64 (Qai (l.take k))) (fun _ q=>n-(intOf q).toNat)
 case atStart=>exact ⟨0,Nat.zero_le _,rfl,rfl⟩
 case round =>
  obtain ⟨k,hk,rfl,rfl⟩:=hrel
  by_cases hlt:k<n
  · obtain ⟨b,o,x,rfl,hx,hc⟩:=HR.out.at_ hlt
    have hxb:=HB.out x (Zm hx);have HNX:=Zh (Qfz hx);have i1:(0:Int)≤(k:Int):=by omega
    have i2:(k:Int)<(n:Int):=by omega
    clear hx;generalize Qai (l.take k)=m at *;have HM:=Zh (show (if m<x+1 then x+1 else m)=max m (x+1) by split <;> omega)
    go_wp2_with fail
    go_round
    case rel=>exact ⟨k+1,by omega,by go_num,by rw [HNX.out,←HM.out]⟩
    case measure=>simp [intOf];omega
  · obtain rfl:n=k:=by omega
    have HE:=Zh (show Qai (l.take n)=Qai l by rw [List.take_of_length_le (by rw [HL.out];exact Zn _)])
    go_wp2
    go_ret
    exact ⟨Qbu HE.out,rfl⟩
def Qfh (ls:List (List Int)) (i:Nat):Option (List Int):=if i=0 then none else ls[i-1]?
theorem Qrb (ls:List (List Int)):Qfh ls 0=none:=rfl
theorem Qgr (ls:List (List Int)) (j:Nat):Qfh ls (j+1)=ls[j]?:=rfl
theorem Qqr {n:Nat} {p:Option (List Int)} {l:List Int} (h:l.length≠n):Qek n p l=1:=by unfold Qek;rw [if_pos h]
theorem Qid {n:Nat} {p:Option (List Int)} {l:List Int} (h:l.length=n) (hn:¬(Qfb n l∧∀ q,p=some q→Qdq q l)):Qek n p l=10:=by
 unfold Qek;rw [if_neg (fun e=>e h),if_neg hn]
theorem Qln {n:Nat} {p:Option (List Int)} {l:List Int} (h:Qfb n l) (hn:∀ q,p=some q→Qdq q l):Qek n p l=0:=by
 unfold Qek;rw [if_neg (fun e=>e h.len),if_pos ⟨h,hn⟩]
set_option maxHeartbeats 2000000 in
set_option maxRecDepth 20000 in
theorem Qle (Q:Option Addr)(n L cq i:Nat) (ls:List (List Int)) (l:List Int) (w:World) (h:RdT w Q L ls) (hl:ls[i]?=some l) (hn:n≤4096) (hL:L≤1000000) (hprev:∀ j p,i=j+1→ls[j]?=some p→p.length=n) :
 Calls prog 109 #[.int .i64 n,.agg #[.slice Q L cq],.int .i64 ((i:Int)+1),.slice none 0 0] w fun e w'=>e=.returned (.int .i64 (Qek n (Qfh ls i) l))∧Below w.heap.size w w':=by
 have hi:i<L:=by rw [←h.1];exact (Zs hl).1
 have HT:=Zh h;obtain ⟨b,o,A,m,c,l',rfl,hl',hc,hr,q1,q2⟩:=h.at_ hi;rw [hl] at hl'
 cases hl'
 have HR:=Zh hr;have HLEN:=Zh hr.1;have HLL:=Zh hl;have HPV:=Zh hprev;have hca:=fun ob=>Zc (show Below w.heap.size w (w.alloc ob) from Qae) (Zn _) hc
 have i1:(0:Int)≤(i:Int):=by omega
 have i2:(i:Int)<(L:Int):=by omega
 have i5:(i:Int)+1-1=(i:Int):=by omega
 have hmk:=Qea n (by omega);clear h hr hl hprev q1
 by_cases hmn:m=n
 rotate_left
 · have e1:((m:Int) != (n:Int))=true:=by simp;omega
   have e2:((m:Int) == (n:Int))=false:=by simp;omega
   have HC:=Zh (Qqr (n:=n) (p:=Qfh ls i) (l:=l) (by rw [HLEN.out];exact hmn))
   go_enter func109,ntmps109
   go_wp2_with fail
   go_ret
   exact ⟨Qbu HC.out.symm,Qae⟩
 subst hmn
 go_enter func109,ntmps109
 go_wp2_with fail
 (refine Qag ?_;intro w1 hw1)
 have hb1:Below w.heap.size w w1:=by rw [hw1];exact Qae
 have hQ:Blk w1 w.heap.size 29 #[.slice (some ⟨b,o,none⟩) L cq]:=by rw [hw1];exact Qay
 have HR1:=Zh (HR.out.below hb1);clear hw1 hca
 go_loop [10] (fun q=>∃ k:Nat,k≤m∧q=.int .i64 k∧∀ j x,j<k→l[j]?=some x→0≤x∧x<m) (fun q=>m-(intOf q).toNat)
 case atStart=>exact ⟨0,Nat.zero_le _,rfl,fun _ _ h=>absurd h (Nat.not_lt_zero _)⟩
 case round =>
  obtain ⟨k,hk,rfl,hall⟩:=hrel;have HA:=Zh hall;clear hall
  by_cases hlt:k<m
  · obtain ⟨b',o',x,rfl,hx,hcx⟩:=HR1.out.at_ hlt
    have j1:(0:Int)≤(k:Int):=by omega
    have j2:(k:Int)<(m:Int):=by omega
    have HX:=Zh hx;clear hx
    by_cases hok:0≤x∧x<m
    · have g0:=hok.1
      have g1:=hok.2;have HOK:=Zh hok;clear hok
      go_wp2_with fail
      go_round
      case rel=>exact ⟨k+1,by omega,by go_num,fun j y hj hy=>by
       by_cases e:j=k
       · subst e
         rw [HX.out] at hy
         cases hy
         exact HOK.out
       · exact HA.out j y (by omega) hy⟩
      case measure=>simp [intOf];omega
    · have HC:=Zh (Qid (n:=m) (p:=Qfh ls i) (l:=l) HLEN.out (fun hh=>hok ⟨hh.1.lo x (Zm HX.out),hh.1.hi x (Zm HX.out)⟩))
      by_cases hx0:x<0
      · clear hok
        go_wp2_with fail
        go_ret
        exact ⟨Qbu HC.out.symm,hb1⟩
      · have hx1:¬x<m:=by omega
        have hx2:x ≥ m:=by omega
        clear hok
        go_wp2_with fail
        go_ret
        exact ⟨Qbu HC.out.symm,hb1⟩
  · obtain rfl:m=k:=by omega
    have HN:=Zh (show ∀ x∈l,0≤x∧x<m from fun x hx=>by
     obtain ⟨j,hj⟩:=List.getElem?_of_mem hx;exact HA.out j x (by rw [←HLEN.out];exact (Zs hj).1) hj)
    clear HA
    go_wp2_with fail
    (refine Qag ?_;intro w2 hw2)
    have hb2:Below w1.heap.size w1 w2:=by rw [hw2];exact Qae
    have hQ2:=hQ.below hb2 hQ.lt;have hB2:Blk w2 w1.heap.size 3 (Qcm (Qpv (l.take 0) m)):=by rw [hw2,List.take_zero,Qor];exact Blk.new _ _ _
    have hbw2:=Zb hb1 hb2;have hz12:=hb1.size;clear hw2 hmk
    go_loopw [12] (fun q W=>Below w1.heap.size w1 W∧∃ k:Nat,k≤m∧q=.int .i64 k∧Blk W w1.heap.size 3 (Qcm (Qpv (l.take k) m))) (fun q _=>m-(intOf q).toNat)
    case atStart=>exact ⟨hb2,0,Nat.zero_le _,rfl,hB2⟩
    case round =>
     clear hb2 hB2 hQ2 hbw2;obtain ⟨hbl,k,hk,rfl,hB⟩:=hrel
     by_cases hlt2:k<m
     · obtain ⟨b',o',x,rfl,hx,hcx⟩:=HR1.out.at_ hlt2
       have hxx:=HN.out x (Zm hx);obtain ⟨v,rfl⟩:∃ v:Nat,x=v:=⟨x.toNat,by omega⟩;have hv:v<m:=by omega
       have hcx2:=Zc hbl (Zn _) hcx;have c1:=hB.cellI (Qeg (l:=l.take k) hv);have c1f:=hB.frozen v;have d1:=Qxr l k (v:Int);have HBN:=Zh (hB.setI (Qof hx hv));have j1:(0:Int)≤(k:Int):=by omega
       have j2:(k:Int)<(m:Int):=by omega
       have j3:(0:Int)≤(v:Int):=by omega
       have j4:(v:Int)<(m:Int):=by omega
       clear hx hcx hB hxx;generalize (l.take k).countP (fun x=>x == (v:Int))=p at *;have hbn:Below w1.heap.size w1 (wr.setCell ⟨w1.heap.size,v,none⟩ (.int .i64 ((p:Int)+1))):=hbl.setCell (Zn _) _
       go_wp2_with fail
       go_roundw
       case rel=>exact ⟨hbn,k+1,by omega,by go_num,HBN.out⟩
       case measure=>simp [intOf];omega
     · obtain rfl:m=k:=by omega
       rw [List.take_of_length_le (by rw [HLEN.out];exact Zn _)] at hB;have m0:=Qbt l;have m1:=Qbp (l:=l) (n:=(m:Int)) (fun x hx=>(HN.out x hx).2) (by omega);obtain ⟨w3,hw3⟩:∃ w3,w3=wr:=⟨_,rfl⟩;subst hw3;have hbw3:=Zb hb1 hbl;have HMO:=Zh (Qst A m c l w3 (HR.out.below hbw3) (by omega) (fun x hx=>by have:=HN.out x hx;omega));obtain ⟨M,hM⟩:∃ M:Nat,Qai l=M:=⟨(Qai l).toNat,by omega⟩;rw [hM] at HMO m0 m1;have HMM:=Zh hM;clear hM
       go_wp2_with fail
       go_loop [13] (fun q=>∃ k:Nat,k≤M∧q=.int .i64 k∧∀ c:Nat,c<k→(c:Int)∈l) (fun q=>M-(intOf q).toNat)
       case atStart=>exact ⟨0,Nat.zero_le _,rfl,fun _ h=>absurd h (Nat.not_lt_zero _)⟩
       case round =>
        obtain ⟨k,hk,rfl,hall⟩:=hrel;have HA:=Zh hall;clear hall
        go_wp2_with fail
        with_reducible refine HMO.out.mono ?_
        rintro e w' ⟨rfl,rfl⟩
        by_cases hlt3:k<M
        · have hkm:k<m:=by omega
          have c1:=hB.cellI (Qeg (l:=l) hkm);have j1:(0:Int)≤(k:Int):=by omega
          have j2:(k:Int)<(m:Int):=by omega
          have HCT:=Zh (show 0<l.countP (fun x=>x == (k:Int))↔(k:Int)∈l from by rw [List.countP_pos_iff];simp)
          generalize l.countP (fun x=>x == (k:Int))=p at *
          by_cases hp:p=0
          · subst hp
            have HC:=Zh (Qid (n:=m) (p:=Qfh ls i) (l:=l) HLEN.out (fun hh=>by
             have:=HCT.out.2 (hh.1.all k (by rw [HMM.out];omega));omega))
            go_wp2_with fail
            go_ret
            exact ⟨Qbu HC.out.symm,hbw3⟩
          · have e1:((p:Int) == 0)=false:=by simp;exact hp
            have HP:=Zh (HCT.out.1 (by omega));clear hp
            go_wp2_with fail
            go_round
            case rel=>exact ⟨k+1,by omega,by go_num,fun c hc=>by
             by_cases e:c=k
             · subst e;exact HP.out
             · exact HA.out c (by omega)⟩
            case measure=>simp [intOf];omega
        · obtain rfl:M=k:=by omega
          have HLV:=Zh (show Qfb m l from ⟨HLEN.out,fun x hx=>(HN.out x hx).1,fun x hx=>(HN.out x hx).2,fun c hc=>HA.out c (by rw [HMM.out] at hc;omega)⟩)
          have hQ3:=hQ.below hbl hQ.lt;clear HA HN hB;have q0:=hQ3.cell 0;simp only [List.getElem?_toArray,List.getElem?_cons_zero] at q0;have HRw:=Zh (HR.out.below hbw3)
          by_cases hi0:i=0
          · have HC:=Zh (Qln (n:=m) (p:=Qfh ls i) HLV.out (fun q hq=>by rw [hi0,Qrb] at hq;cases hq))
            have e1:¬((i:Int)+1 > 1):=by omega
            have e2:¬(0<i):=by omega
            have e3:¬((i:Int) > 0):=by omega
            clear hi0;have hb99:Below w3.heap.size w3 w3:=Zr _ _
            by_cases hm0:0<m
            · skip
              go_wp2_with fail
              go_loop [14] (fun q=>q=.int .i64 0) (fun _=>0)
              case atStart=>rfl
              case round =>
               subst hrel
               go_wp2_with fail
               go_loop [16] (fun q=>q=.int .i64 0) (fun _=>0)
               case atStart=>rfl
               case round =>
                subst hrel
                go_wp2_with fail
                all_goals
                 go_ret
                 exact ⟨Qbu HC.out.symm,Zb hbw3 hb99⟩
            · skip
              go_wp2_with fail
              go_loop [14] (fun q=>q=.int .i64 0) (fun _=>0)
              case atStart=>rfl
              case round =>
               subst hrel
               go_wp2_with fail
               go_loop [16] (fun q=>q=.int .i64 0) (fun _=>0)
               case atStart=>rfl
               case round =>
                subst hrel
                go_wp2_with fail
                all_goals
                 go_ret
                 exact ⟨Qbu HC.out.symm,Zb hbw3 hb99⟩
          · obtain ⟨j,rfl⟩:∃ j,i=j+1:=⟨i-1,by omega⟩
            obtain ⟨bp,op,A',m',c',p,e,hp,hcp,hrp,q1',q2'⟩:=HT.out.at_ (show j<L by omega)
            cases e
            obtain rfl:m=m':=by rw [←hrp.1];exact (HPV.out j p rfl hp).symm
            have HPP:=Zh hp;have HRp:=Zh (hrp.below hbw3);have HCP:=Zh (Zc hbw3 (Zn _) hcp);have i3:((j:Int)+1+1)-2=(j:Int):=by omega
            have i4:(0:Int)≤(j:Int):=by omega
            have i6:(j:Int)<(L:Int):=by omega
            have i7:(j:Int)+1+1 > 1:=by omega
            have HLp:=Zh hrp.1;clear hrp hp hcp q1' hi0
            go_wp2_with fail
            go_loopw [14] (fun q W=>Below w3.heap.size w3 W∧∃ k:Nat,k≤m∧q=.int .i64 k∧∀ (a v:Nat) (x y u z:Int),a<k→p[a]?=some x→p[v]?=some y→l[a]?=some u→l[v]?=some z→x≤y→u≤z) (fun q _=>m-(intOf q).toNat)
            case atStart=>exact ⟨Zr _ _,0,Nat.zero_le _,rfl,fun _ _ _ _ _ _ h=>absurd h (Nat.not_lt_zero _)⟩
            case round =>
             obtain ⟨hbr,k,hk,rfl,hall⟩:=hrel;have HA:=Zh hall;clear hall
             by_cases hlt4:k<m
             · obtain ⟨pb,po,x,rfl,hx,hcx⟩:=HRp.out.at_ hlt4
               obtain ⟨lb,lo,u,rfl,hu,hcu⟩:=HRw.out.at_ hlt4;have k1:(0:Int)≤(k:Int):=by omega
               have k2:(k:Int)<(m:Int):=by omega
               have HX:=Zh hx;have HU:=Zh hu;clear hx hu;obtain ⟨wo,hwo⟩:∃ wo,wo=wr:=⟨_,rfl⟩;subst hwo
               go_wp2_with fail
               go_loopw [15] (fun q W=>Below w3.heap.size w3 W∧∃ v:Nat,v≤m∧q=.int .i64 v∧∀ (v':Nat) (y z:Int),v'<v→p[v']?=some y→l[v']?=some z→x≤y→u≤z) (fun q _=>m-(intOf q).toNat)
               case atStart=>exact ⟨hbr,0,Nat.zero_le _,rfl,fun _ _ _ h=>absurd h (Nat.not_lt_zero _)⟩
               case round =>
                clear hbr;obtain ⟨hbr,v,hv,rfl,hall⟩:=hrel;have HV:=Zh hall;clear hall
                by_cases hlt5:v<m
                · obtain ⟨pb',po',y,e,hy,hcy⟩:=HRp.out.at_ hlt5
                  cases e
                  obtain ⟨lb',lo',z,e,hz,hcz⟩:=HRw.out.at_ hlt5
                  cases e
                  have HY:=Zh hy;have HZ:=Zh hz;have q0':=Zc hbr (Zn _) q0;have hcp':=Zc hbr (Zn _) HCP.out;have hcx':=Zc hbr (Zn _) hcx;have hcu':=Zc hbr (Zn _) hcu;have hcy':=Zc hbr (Zn _) hcy;have hcz':=Zc hbr (Zn _) hcz;have k3:(0:Int)≤(v:Int):=by omega
                  have k4:(v:Int)<(m:Int):=by omega
                  clear hy hz hcy hcz
                  by_cases hxy:x≤y
                  · by_cases huz:u > z
                    · have HC:=Zh (Qid (n:=m) (p:=Qfh ls (j+1)) (l:=l) HLEN.out (fun hh=>by
                       have:=hh.2 p (by rw [Qgr];exact HPP.out) k v x y u z HX.out HY.out HU.out HZ.out hxy;omega))
                      have e1:decide (x≤y)=true:=by simpa using hxy
                      go_wp2_with fail
                      go_quiet (fail)
                      go_wp2_with fail
                      go_ret
                      exact ⟨Qbu HC.out.symm,Zb hbw3 (Qas hbr _)⟩
                    · have e1:decide (x≤y)=true:=by simpa using hxy
                      have HO:=Zh huz
                      go_wp2_with fail
                      go_quiet (fail)
                      go_wp2_with fail
                      go_roundw
                      case rel=>exact ⟨Qas hbr _,v+1,by omega,by go_num,fun v' y' z' hv' h1 h2 h3=>by
                       by_cases e:v'=v
                       · subst e
                         rw [HZ.out] at h2
                         cases h2
                         have:=HO.out;omega
                       · exact HV.out v' y' z' (by omega) h1 h2 h3⟩
                      case measure=>simp [intOf];omega
                  · have e1:decide (x≤y)=false:=by simpa using hxy
                    have HO:=Zh hxy
                    go_wp2_with fail
                    go_quiet (fail)
                    go_wp2_with fail
                    go_roundw
                    case rel=>exact ⟨Qas hbr _,v+1,by omega,by go_num,fun v' y' z' hv' h1 h2 h3=>by
                     by_cases e:v'=v
                     · subst e
                       rw [HY.out] at h1
                       cases h1
                       have:=HO.out;omega
                     · exact HV.out v' y' z' (by omega) h1 h2 h3⟩
                    case measure=>simp [intOf];omega
                · obtain rfl:m=v:=by omega
                  go_wp2_with fail
                  go_roundw
                  case rel=>exact ⟨hbr,k+1,by omega,by go_num,fun a v x' y u' z ha h1 h2 h3 h4 h5=>by
                   by_cases e:a=k
                   · subst e
                     rw [HX.out] at h1;rw [HU.out] at h3
                     cases h1
                     cases h3
                     exact HV.out v y z (by rw [←HLp.out];exact (Zs h2).1) h2 h4 h5
                   · exact HA.out a v x' y u' z (by omega) h1 h2 h3 h4 h5⟩
                  case measure=>simp [intOf];omega
             · obtain rfl:m=k:=by omega
               have HC:=Zh (Qln (n:=m) (p:=Qfh ls (j+1)) HLV.out (fun q hq=>by
                rw [Qgr,HPP.out] at hq
                cases hq
                intro a v x y u z h1 h2 h3 h4 h5;exact HA.out a v x y u z (by rw [←HLp.out];exact (Zs h1).1) h1 h2 h3 h4 h5))
               clear HA
               go_wp2_with fail
               have hb99:=hbr
               go_loop [16] (fun q=>q=.int .i64 0) (fun _=>0)
               case atStart=>rfl
               case round =>
                subst hrel
                go_wp2_with fail
                all_goals
                 go_ret
                 exact ⟨Qbu HC.out.symm,Zb hbw3 hb99⟩
end Go.Proofs.YthoagdpakddbdaaGreatDoor
