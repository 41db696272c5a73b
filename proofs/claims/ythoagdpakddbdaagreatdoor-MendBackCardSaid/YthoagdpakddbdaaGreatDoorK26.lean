/- Parts of the proof: MdY, Sbo, RfC, Pd, RoG, RoO, MdB, Kq, Kr, MdV, On. -/
import Derived.Test.YthoagdpakddbdaaGreatDoorK1
import Derived.Test.YthoagdpakddbdaaGreatDoorK5
import Derived.Test.YthoagdpakddbdaaGreatDoorK9
import Derived.Test.YthoagdpakddbdaaGreatDoorK10
import Derived.Test.YthoagdpakddbdaaGreatDoorK11
import Derived.Test.YthoagdpakddbdaaGreatDoorK13
import Derived.Test.YthoagdpakddbdaaGreatDoorK17
import Derived.Test.YthoagdpakddbdaaGreatDoorK19
import Derived.Test.YthoagdpakddbdaaGreatDoorK21
import Derived.Test.YthoagdpakddbdaaGreatDoorK25
namespace Go.Proofs.YthoagdpakddbdaaGreatDoor
open Go.RowKit Go.Proofs.Tryz
def mbI (l:List Int)(q:Int):List Int:=(l.zipIdx.filter (fun p=>p.1 == q)).map (fun p=>(p.2:Int))
theorem mem_mbI {l:List Int}{q x:Int}:x∈mbI l q↔∃ i:Nat,x=(i:Int)∧l[i]?=some q:=by
 unfold mbI;rw [List.mem_map]
 constructor
 · rintro ⟨⟨a,i⟩,h1,rfl⟩
   rw [List.mem_filter] at h1;have h2:=List.mem_zipIdx_iff_getElem?.1 h1.1;have h3:=h1.2;simp only [beq_iff_eq] at h3 h2;exact ⟨i,rfl,by rw [←h3];exact h2⟩
 · rintro ⟨i,rfl,h⟩
   exact ⟨(q,i),List.mem_filter.2 ⟨List.mem_zipIdx_iff_getElem?.2 h,by simp⟩,rfl⟩
def tabB (s t:Qbw):Bool:=s.ins == t.ins && s.outs == t.outs && decide (s.costs=t.costs)
theorem tabB_iff {s t:Qbw}:tabB s t=true↔s=t:=by
 unfold tabB
 constructor
 · intro h
   simp only [Bool.and_eq_true,beq_iff_eq,decide_eq_true_eq] at h;exact Qpu h.1.1 h.1.2 (fun i=>by rw [h.2])
 · rintro rfl
   simp
/-! other entries -/
attribute [local go_sem ↓] Go.wp_at_zero Go.wp_at_succ
set_option maxHeartbeats 400000 in
theorem Qlr (A B:Option Addr)(n m c d:Nat)(l k0:List Bool)(w:World)(h:RdB w A n l)(g:RdB w B m k0)(hn:n≤1000000000)(he:l=k0) :
 Calls prog 45 #[.slice A n c,.slice B m d] w fun e w'=>e=.returned (.bool true)∧∃ q,w'=w.drewN q:=by
 subst he;obtain rfl:n=m:=by rw [←h.1,←g.1]
 go_enter func45,ntmps45
 go_wp2
 go_loopw [5] (fun i W=>∃ k:Nat,k≤n∧i=.int .i64 k∧∃ q,W=w.drewN q) (fun i _=>n-(intOf i).toNat)
 case atStart=>exact ⟨0,Nat.zero_le _,rfl,0,rfl⟩
 case round =>
  obtain ⟨k,hk,rfl,q,rfl⟩:=hrel
  by_cases hlt:k<n
  · obtain ⟨b,o,x,rfl,hx,hc⟩:=h.at_ hlt
    obtain ⟨b',o',y,rfl,hy,hd⟩:=g.at_ hlt;obtain rfl:x=y:=by rw [hx] at hy;exact Option.some.inj hy
    have i1:(0:Int)≤(k:Int):=by omega
    have i2:(k:Int)<(n:Int):=by omega
    clear hx hy
    cases x
    all_goals
     go_wp2
     go_quiet (fail)
     go_wp2
     go_roundw
     case rel=>exact ⟨k+1,by omega,by go_num,q+nq,by simp⟩
     case measure=>simp [intOf];omega
  · go_wp2
    go_ret
    exact ⟨rfl,_,rfl⟩
set_option maxHeartbeats 400000 in
theorem most_any (A:Option Addr)(n c:Nat)(l:List Int)(w:World)(h:RdI w A n l)(hn:n≤1000000)(hb:∀ x∈l,0≤x∧x≤1000000) :
 Calls prog 104 #[.slice A n c] w fun e w'=>e=.returned (.int .i64 (Qam l))∧w=w':=by
 have HR:=Zh h;have HL:=Zh h.1;have HB:=Zh hb;clear h hb
 go_enter func104,ntmps104
 go_wp2_with fail
 go_loop [3,4] (fun m q=>∃ k:Nat,k≤n∧q=.int .i64 k∧m=.int .i64 (Qam (l.take k))) (fun _ q=>n-(intOf q).toNat)
 case atStart=>exact ⟨0,Nat.zero_le _,rfl,rfl⟩
 case round =>
  obtain ⟨k,hk,rfl,rfl⟩:=hrel
  by_cases hlt:k<n
  · obtain ⟨b,o,x,rfl,hx,hc⟩:=HR.out.at_ hlt
    have hxb:=HB.out x (Zm hx);have HNX:=Zh (Qfn hx);have i1:(0:Int)≤(k:Int):=by omega
    have i2:(k:Int)<(n:Int):=by omega
    clear hx;generalize Qam (l.take k)=m at *;have HM:=Zh (show (if m<x+1 then x+1 else m)=max m (x+1) by split <;> omega)
    go_wp2_with fail
    go_round
    case rel=>exact ⟨k+1,by omega,by go_num,by rw [HNX.out,←HM.out]⟩
    case measure=>simp [intOf];omega
  · obtain rfl:n=k:=by omega
    have HE:=Zh (show Qam (l.take n)=Qam l by rw [List.take_of_length_le (by rw [HL.out];exact Zn _)])
    go_wp2
    go_ret
    exact ⟨Qbs HE.out,rfl⟩
def Qeu (ls:List (List Int)) (i:Nat):Option (List Int):=if i=0 then none else ls[i-1]?
theorem Qpw (ls:List (List Int)):Qeu ls 0=none:=rfl
theorem Qgi (ls:List (List Int)) (j:Nat):Qeu ls (j+1)=ls[j]?:=rfl
theorem Qpx {n:Nat} {p:Option (List Int)} {l:List Int} (h:l.length≠n):Qee n p l=1:=by unfold Qee;rw [if_pos h]
theorem Qhm {n:Nat} {p:Option (List Int)} {l:List Int} (h:l.length=n) (hn:¬(Qen n l∧∀ q,p=some q→Qdj q l)):Qee n p l=10:=by
 unfold Qee;rw [if_neg (fun e=>e h),if_neg hn]
theorem Qks {n:Nat} {p:Option (List Int)} {l:List Int} (h:Qen n l) (hn:∀ q,p=some q→Qdj q l):Qee n p l=0:=by
 unfold Qee;rw [if_neg (fun e=>e h.len),if_pos ⟨h,hn⟩]
set_option maxHeartbeats 2000000 in
set_option maxRecDepth 20000 in
theorem Qkc (Q:Option Addr)(n L cq i:Nat) (ls:List (List Int)) (l:List Int) (w:World) (h:RdT w Q L ls) (hl:ls[i]?=some l) (hn:n≤4096) (hL:L≤1000000) (hprev:∀ j p,i=j+1→ls[j]?=some p→p.length=n) :
 Calls prog 109 #[.int .i64 n,.agg #[.slice Q L cq],.int .i64 ((i:Int)+1),.slice none 0 0] w fun e w'=>e=.returned (.int .i64 (Qee n (Qeu ls i) l))∧Below w.heap.size w w':=by
 have hi:i<L:=by rw [←h.1];exact (Zs hl).1
 have HT:=Zh h;obtain ⟨b,o,A,m,c,l',rfl,hl',hc,hr,q1,q2⟩:=h.at_ hi;rw [hl] at hl'
 cases hl'
 have HR:=Zh hr;have HLEN:=Zh hr.1;have HLL:=Zh hl;have HPV:=Zh hprev;have hca:=fun ob=>Zc (show Below w.heap.size w (w.alloc ob) from Qae) (Zn _) hc
 have i1:(0:Int)≤(i:Int):=by omega
 have i2:(i:Int)<(L:Int):=by omega
 have i5:(i:Int)+1-1=(i:Int):=by omega
 have hmk:=Qdn n (by omega);clear h hr hl hprev q1
 by_cases hmn:m=n
 rotate_left
 · have e1:((m:Int) != (n:Int))=true:=by simp;omega
   have e2:((m:Int) == (n:Int))=false:=by simp;omega
   have HC:=Zh (Qpx (n:=n) (p:=Qeu ls i) (l:=l) (by rw [HLEN.out];exact hmn))
   go_enter func109,ntmps109
   go_wp2_with fail
   go_ret
   exact ⟨Qbs HC.out.symm,Qae⟩
 subst hmn
 go_enter func109,ntmps109
 go_wp2_with fail
 (refine Qah ?_;intro w1 hw1)
 have hb1:Below w.heap.size w w1:=by rw [hw1];exact Qae
 have hQ:Blk w1 w.heap.size 29 #[.slice (some ⟨b,o,none⟩) L cq]:=by rw [hw1];exact Qau
 have HR1:=Zh (HR.out.below hb1);clear hw1 hca
 go_loop [10] (fun q=>∃ k:Nat,k≤m∧q=.int .i64 k∧∀ j x,j<k→l[j]?=some x→0≤x∧x<m) (fun q=>m-(intOf q).toNat)
 case atStart=>exact ⟨0,Nat.zero_le _,rfl,fun _ _ h=>absurd h (Nat.not_lt_zero _)⟩
 case round =>
  obtain ⟨k,hk,rfl,hall⟩:=hrel;have HA:=Zh hall;clear hall
  by_cases hlt:k<m
  · obtain ⟨b',o',x,rfl,hx,hcx⟩:=HR1.out.at_ hlt
    have j1:(0:Int)≤(k:Int):=by omega
    have j2:(k:Int)<(m:Int):=by omega
    have HX:=Zh hx;clear hx
    by_cases hok:0≤x∧x<m
    · have g0:=hok.1
      have g1:=hok.2;have HOK:=Zh hok;clear hok
      go_wp2_with fail
      go_round
      case rel=>exact ⟨k+1,by omega,by go_num,fun j y hj hy=>by
       by_cases e:j=k
       · subst e
         rw [HX.out] at hy
         cases hy
         exact HOK.out
       · exact HA.out j y (by omega) hy⟩
      case measure=>simp [intOf];omega
    · have HC:=Zh (Qhm (n:=m) (p:=Qeu ls i) (l:=l) HLEN.out (fun hh=>hok ⟨hh.1.lo x (Zm HX.out),hh.1.hi x (Zm HX.out)⟩))
      by_cases hx0:x<0
      · clear hok
        go_wp2_with fail
        go_ret
        exact ⟨Qbs HC.out.symm,hb1⟩
      · have hx1:¬x<m:=by omega
        have hx2:x ≥ m:=by omega
        clear hok
        go_wp2_with fail
        go_ret
        exact ⟨Qbs HC.out.symm,hb1⟩
  · obtain rfl:m=k:=by omega
    have HN:=Zh (show ∀ x∈l,0≤x∧x<m from fun x hx=>by
     obtain ⟨j,hj⟩:=List.getElem?_of_mem hx;exact HA.out j x (by rw [←HLEN.out];exact (Zs hj).1) hj)
    clear HA
    go_wp2_with fail
    (refine Qah ?_;intro w2 hw2)
    have hb2:Below w1.heap.size w1 w2:=by rw [hw2];exact Qae
    have hQ2:=hQ.below hb2 hQ.lt;have hB2:Blk w2 w1.heap.size 3 (Qcf (Qoq (l.take 0) m)):=by rw [hw2,List.take_zero,Qnm];exact Blk.new _ _ _
    have hbw2:=Zb hb1 hb2;have hz12:=hb1.size;clear hw2 hmk
    go_loopw [12] (fun q W=>Below w1.heap.size w1 W∧∃ k:Nat,k≤m∧q=.int .i64 k∧Blk W w1.heap.size 3 (Qcf (Qoq (l.take k) m))) (fun q _=>m-(intOf q).toNat)
    case atStart=>exact ⟨hb2,0,Nat.zero_le _,rfl,hB2⟩
    case round =>
     clear hb2 hB2 hQ2 hbw2;obtain ⟨hbl,k,hk,rfl,hB⟩:=hrel
     by_cases hlt2:k<m
     · obtain ⟨b',o',x,rfl,hx,hcx⟩:=HR1.out.at_ hlt2
       have hxx:=HN.out x (Zm hx);obtain ⟨v,rfl⟩:∃ v:Nat,x=v:=⟨x.toNat,by omega⟩;have hv:v<m:=by omega
       have hcx2:=Zc hbl (Zn _) hcx;have c1:=hB.cellI (Qdv (l:=l.take k) hv);have c1f:=hB.frozen v;have d1:=Qwt l k (v:Int);have HBN:=Zh (hB.setI (Qmu hx hv));have j1:(0:Int)≤(k:Int):=by omega
       have j2:(k:Int)<(m:Int):=by omega
       have j3:(0:Int)≤(v:Int):=by omega
       have j4:(v:Int)<(m:Int):=by omega
       clear hx hcx hB hxx;generalize (l.take k).countP (fun x=>x == (v:Int))=p at *;have hbn:Below w1.heap.size w1 (wr.setCell ⟨w1.heap.size,v,none⟩ (.int .i64 ((p:Int)+1))):=hbl.setCell (Zn _) _
       go_wp2_with fail
       go_roundw
       case rel=>exact ⟨hbn,k+1,by omega,by go_num,HBN.out⟩
       case measure=>simp [intOf];omega
     · obtain rfl:m=k:=by omega
       rw [List.take_of_length_le (by rw [HLEN.out];exact Zn _)] at hB;have m0:=Qbv l;have m1:=Qcd (l:=l) (n:=(m:Int)) (fun x hx=>(HN.out x hx).2) (by omega);obtain ⟨w3,hw3⟩:∃ w3,w3=wr:=⟨_,rfl⟩;subst hw3;have hbw3:=Zb hb1 hbl;have HMO:=Zh (most_any A m c l w3 (HR.out.below hbw3) (by omega) (fun x hx=>by have:=HN.out x hx;omega));obtain ⟨M,hM⟩:∃ M:Nat,Qam l=M:=⟨(Qam l).toNat,by omega⟩;rw [hM] at HMO m0 m1;have HMM:=Zh hM;clear hM
       go_wp2_with fail
       go_loop [13] (fun q=>∃ k:Nat,k≤M∧q=.int .i64 k∧∀ c:Nat,c<k→(c:Int)∈l) (fun q=>M-(intOf q).toNat)
       case atStart=>exact ⟨0,Nat.zero_le _,rfl,fun _ h=>absurd h (Nat.not_lt_zero _)⟩
       case round =>
        obtain ⟨k,hk,rfl,hall⟩:=hrel;have HA:=Zh hall;clear hall
        go_wp2_with fail
        with_reducible refine HMO.out.mono ?_
        rintro e w' ⟨rfl,rfl⟩
        by_cases hlt3:k<M
        · have hkm:k<m:=by omega
          have c1:=hB.cellI (Qdv (l:=l) hkm);have j1:(0:Int)≤(k:Int):=by omega
          have j2:(k:Int)<(m:Int):=by omega
          have HCT:=Zh (show 0<l.countP (fun x=>x == (k:Int))↔(k:Int)∈l from by rw [List.countP_pos_iff];simp)
          generalize l.countP (fun x=>x == (k:Int))=p at *
          by_cases hp:p=0
          · subst hp
            have HC:=Zh (Qhm (n:=m) (p:=Qeu ls i) (l:=l) HLEN.out (fun hh=>by
             have:=HCT.out.2 (hh.1.all k (by rw [HMM.out];omega));omega))
            go_wp2_with fail
            go_ret
            exact ⟨Qbs HC.out.symm,hbw3⟩
          · have e1:((p:Int) == 0)=false:=by simp;exact hp
            have HP:=Zh (HCT.out.1 (by omega));clear hp
            go_wp2_with fail
            go_round
            case rel=>exact ⟨k+1,by omega,by go_num,fun c hc=>by
             by_cases e:c=k
             · subst e;exact HP.out
             · exact HA.out c (by omega)⟩
            case measure=>simp [intOf];omega
        · obtain rfl:M=k:=by omega
          have HLV:=Zh (show Qen m l from ⟨HLEN.out,fun x hx=>(HN.out x hx).1,fun x hx=>(HN.out x hx).2,fun c hc=>HA.out c (by rw [HMM.out] at hc;omega)⟩)
          have hQ3:=hQ.below hbl hQ.lt;clear HA HN hB;have q0:=hQ3.cell 0;simp only [List.getElem?_toArray,List.getElem?_cons_zero] at q0;have HRw:=Zh (HR.out.below hbw3)
          by_cases hi0:i=0
          · have HC:=Zh (Qks (n:=m) (p:=Qeu ls i) HLV.out (fun q hq=>by rw [hi0,Qpw] at hq;cases hq))
            have e1:¬((i:Int)+1 > 1):=by omega
            have e2:¬(0<i):=by omega
            have e3:¬((i:Int) > 0):=by omega
            clear hi0;have hb99:Below w3.heap.size w3 w3:=Zr _ _
            by_cases hm0:0<m
            · skip
              go_wp2_with fail
              go_loop [14] (fun q=>q=.int .i64 0) (fun _=>0)
              case atStart=>rfl
              case round =>
               subst hrel
               go_wp2_with fail
               go_loop [16] (fun q=>q=.int .i64 0) (fun _=>0)
               case atStart=>rfl
               case round =>
                subst hrel
                go_wp2_with fail
                all_goals
                 go_ret
                 exact ⟨Qbs HC.out.symm,Zb hbw3 hb99⟩
            · skip
              go_wp2_with fail
              go_loop [14] (fun q=>q=.int .i64 0) (fun _=>0)
              case atStart=>rfl
              case round =>
               subst hrel
               go_wp2_with fail
               go_loop [16] (fun q=>q=.int .i64 0) (fun _=>0)
               case atStart=>rfl
               case round =>
                subst hrel
                go_wp2_with fail
                all_goals
                 go_ret
                 exact ⟨Qbs HC.out.symm,Zb hbw3 hb99⟩
          · obtain ⟨j,rfl⟩:∃ j,i=j+1:=⟨i-1,by omega⟩
            obtain ⟨bp,op,A',m',c',p,e,hp,hcp,hrp,q1',q2'⟩:=HT.out.at_ (show j<L by omega)
            cases e
            obtain rfl:m=m':=by rw [←hrp.1];exact (HPV.out j p rfl hp).symm
            have HPP:=Zh hp;have HRp:=Zh (hrp.below hbw3);have HCP:=Zh (Zc hbw3 (Zn _) hcp);have i3:((j:Int)+1+1)-2=(j:Int):=by omega
            have i4:(0:Int)≤(j:Int):=by omega
            have i6:(j:Int)<(L:Int):=by omega
            have i7:(j:Int)+1+1 > 1:=by omega
            have HLp:=Zh hrp.1;clear hrp hp hcp q1' hi0
            go_wp2_with fail
            go_loopw [14] (fun q W=>Below w3.heap.size w3 W∧∃ k:Nat,k≤m∧q=.int .i64 k∧∀ (a v:Nat) (x y u z:Int),a<k→p[a]?=some x→p[v]?=some y→l[a]?=some u→l[v]?=some z→x≤y→u≤z) (fun q _=>m-(intOf q).toNat)
            case atStart=>exact ⟨Zr _ _,0,Nat.zero_le _,rfl,fun _ _ _ _ _ _ h=>absurd h (Nat.not_lt_zero _)⟩
            case round =>
             obtain ⟨hbr,k,hk,rfl,hall⟩:=hrel;have HA:=Zh hall;clear hall
             by_cases hlt4:k<m
             · obtain ⟨pb,po,x,rfl,hx,hcx⟩:=HRp.out.at_ hlt4
               obtain ⟨lb,lo,u,rfl,hu,hcu⟩:=HRw.out.at_ hlt4;have k1:(0:Int)≤(k:Int):=by omega
               have k2:(k:Int)<(m:Int):=by omega
               have HX:=Zh hx;have HU:=Zh hu;clear hx hu;obtain ⟨wo,hwo⟩:∃ wo,wo=wr:=⟨_,rfl⟩;subst hwo
               go_wp2_with fail
               go_loopw [15] (fun q W=>Below w3.heap.size w3 W∧∃ v:Nat,v≤m∧q=.int .i64 v∧∀ (v':Nat) (y z:Int),v'<v→p[v']?=some y→l[v']?=some z→x≤y→u≤z) (fun q _=>m-(intOf q).toNat)
               case atStart=>exact ⟨hbr,0,Nat.zero_le _,rfl,fun _ _ _ h=>absurd h (Nat.not_lt_zero _)⟩
               case round =>
                clear hbr;obtain ⟨hbr,v,hv,rfl,hall⟩:=hrel;have HV:=Zh hall;clear hall
                by_cases hlt5:v<m
                · obtain ⟨pb',po',y,e,hy,hcy⟩:=HRp.out.at_ hlt5
                  cases e
                  obtain ⟨lb',lo',z,e,hz,hcz⟩:=HRw.out.at_ hlt5
                  cases e
                  have HY:=Zh hy;have HZ:=Zh hz;have q0':=Zc hbr (Zn _) q0;have hcp':=Zc hbr (Zn _) HCP.out;have hcx':=Zc hbr (Zn _) hcx;have hcu':=Zc hbr (Zn _) hcu;have hcy':=Zc hbr (Zn _) hcy;have hcz':=Zc hbr (Zn _) hcz;have k3:(0:Int)≤(v:Int):=by omega
                  have k4:(v:Int)<(m:Int):=by omega
                  clear hy hz hcy hcz
                  by_cases hxy:x≤y
                  · by_cases huz:u > z
                    · have HC:=Zh (Qhm (n:=m) (p:=Qeu ls (j+1)) (l:=l) HLEN.out (fun hh=>by
                       have:=hh.2 p (by rw [Qgi];exact HPP.out) k v x y u z HX.out HY.out HU.out HZ.out hxy;omega))
                      have e1:decide (x≤y)=true:=by simpa using hxy
                      go_wp2_with fail
                      go_quiet (fail)
                      go_wp2_with fail
                      go_ret
                      exact ⟨Qbs HC.out.symm,Zb hbw3 (Qap hbr _)⟩
                    · have e1:decide (x≤y)=true:=by simpa using hxy
                      have HO:=Zh huz
                      go_wp2_with fail
                      go_quiet (fail)
                      go_wp2_with fail
                      go_roundw
                      case rel=>exact ⟨Qap hbr _,v+1,by omega,by go_num,fun v' y' z' hv' h1 h2 h3=>by
                       by_cases e:v'=v
                       · subst e
                         rw [HZ.out] at h2
                         cases h2
                         have:=HO.out;omega
                       · exact HV.out v' y' z' (by omega) h1 h2 h3⟩
                      case measure=>simp [intOf];omega
                  · have e1:decide (x≤y)=false:=by simpa using hxy
                    have HO:=Zh hxy
                    go_wp2_with fail
                    go_quiet (fail)
                    go_wp2_with fail
                    go_roundw
                    case rel=>exact ⟨Qap hbr _,v+1,by omega,by go_num,fun v' y' z' hv' h1 h2 h3=>by
                     by_cases e:v'=v
                     · subst e
                       rw [HY.out] at h1
                       cases h1
                       have:=HO.out;omega
                     · exact HV.out v' y' z' (by omega) h1 h2 h3⟩
                    case measure=>simp [intOf];omega
                · obtain rfl:m=v:=by omega
                  go_wp2_with fail
                  go_roundw
                  case rel=>exact ⟨hbr,k+1,by omega,by go_num,fun a v x' y u' z ha h1 h2 h3 h4 h5=>by
                   by_cases e:a=k
                   · subst e
                     rw [HX.out] at h1;rw [HU.out] at h3
                     cases h1
                     cases h3
                     exact HV.out v y z (by rw [←HLp.out];exact (Zs h2).1) h2 h4 h5
                   · exact HA.out a v x' y u' z (by omega) h1 h2 h3 h4 h5⟩
                  case measure=>simp [intOf];omega
             · obtain rfl:m=k:=by omega
               have HC:=Zh (Qks (n:=m) (p:=Qeu ls (j+1)) HLV.out (fun q hq=>by
                rw [Qgi,HPP.out] at hq
                cases hq
                intro a v x y u z h1 h2 h3 h4 h5;exact HA.out a v x y u z (by rw [←HLp.out];exact (Zs h1).1) h1 h2 h3 h4 h5))
               clear HA
               go_wp2_with fail
               have hb99:=hbr
               go_loop [16] (fun q=>q=.int .i64 0) (fun _=>0)
               case atStart=>rfl
               case round =>
                subst hrel
                go_wp2_with fail
                all_goals
                 go_ret
                 exact ⟨Qbs HC.out.symm,Zb hbw3 hb99⟩
section
variable {W W':World} {B i c:Nat} {A:Option Addr} {xs:List Value} {ar:List Tri} {ls:List (List Int)}
end
abbrev Ent:=Nat×Nat×Nat×Nat
section
variable {w1 V1 V V':World} {F:Nat→Prop} {b5:Nat} {x0 x1 x2 x3 x4:Value} {N:Qaj} {ls:List (List Int)} {A:Option Addr} {cp:Nat} {EL:List Ent}
end
set_option maxHeartbeats 1000000 in
theorem Qms (A B:Option Addr)(n c d:Nat) (l:List (List Bool)) (w:World) (h:RdQ w A n l) (h2:RdQ w B n l) (hn:n≤1000000) (hc:∀ r∈l,r.length≤1000000) :
 Calls prog 15 #[.slice A n c,.slice B n d] w fun e w'=>e=.returned (.bool true)∧Below w.heap.size w w':=by
 have HT:=Zh h;have HT2:=Zh h2;have HC:=Zh hc;have e0:((n:Int) != (n:Int))=false:=by simp
 clear h h2 hc
 go_enter func15,ntmps15
 go_wp2_with fail
 go_loopw [5] (fun q W=>Below w.heap.size w W∧∃ i:Nat,i≤n∧q=.int .i64 (i:Int)) (fun q _=>n-(intOf q).toNat)
 case atStart=>exact ⟨Zr _ _,0,Nat.zero_le _,rfl⟩
 case round =>
  obtain ⟨hbl,i,hi,rfl⟩:=hrel
  by_cases hlt:i<n
  · obtain ⟨b,o,A1,n1,c1,r,rfl,hl,hcl,hr,_,_⟩:=(HT.out.below hbl).at_ hlt
    obtain ⟨b2,o2,A2,n2,c2,r2,rfl,hl2,hcl2,hr2,_,_⟩:=(HT2.out.below hbl).at_ hlt;rw [hl] at hl2
    cases hl2
    have hnn:n2=n1:=by rw [←hr.1,←hr2.1]
    subst hnn;have hn2:n2≤1000000000:=by have:=HC.out r (Zm hl);have:=hr.1;omega
    have HSI:=Zh (show ∀ V,Below wr.heap.size wr V→Calls prog 45 #[.slice A1 n2 c1,.slice A2 n2 c2] V fun e w'=>e=.returned (.bool true)∧∃ k,w'=V.drewN k from fun V hV=>Qlr A1 A2 n2 n2 c1 c2 r r V (hr.below hV) (hr2.below hV) hn2 rfl)
    have i1:(0:Int)≤(i:Int):=by omega
    have i2:(i:Int)<(n:Int):=by omega
    clear hr hr2 hl
    go_wp2_with fail
    go_quiet ((go_at_call 45;exact Qow (HSI.out _ Qae)))
    go_wp2_with fail
    go_roundw
    case rel=>exact ⟨Qap hbl _,i+1,by omega,by go_num⟩
    case measure=>simp [intOf];omega
  · obtain rfl:n=i:=by omega
    go_wp2_with fail
    go_ret
    exact ⟨rfl,hbl⟩
section
variable {W W':World} {B n cp:Nat} {A:Option Addr} {bs:List Nat} {rows:List (List Bool)}
end
theorem Qlg:gateRow Qbh.ar [0,0,1]=[([2],[1]),([1],[2])]:=by decide
theorem k_gr2:gateRow Qbh.ar [0,0,0]=[([],[])]:=by decide
theorem Qjy:gatesOf Qbh.ar Qid=[[([2],[1]),([1],[2])],[([],[])]]:=by
 unfold gatesOf Qid;rw [List.map_cons,List.map_cons,List.map_nil,Qlg,k_gr2]
theorem Qoa:Qbo (gatesOf Qbh.ar Qid)=2:=by rw [Qjy];decide
theorem k_lt {a:Nat}{y:Tri} (h:Qbh.ar[a]?=some y):a=0∧y=(0,1,10)∨a=1∧y=(1,2,20)∨a=2∧y=(2,0,30)∨a=3∧y=(1,0,40):=by
 match a,h with
 | 0,h=>cases h;exact .inl ⟨rfl,rfl⟩
 | 1,h=>cases h;exact .inr (.inl ⟨rfl,rfl⟩)
 | 2,h=>cases h;exact .inr (.inr (.inl ⟨rfl,rfl⟩))
 | 3,h=>cases h;exact .inr (.inr (.inr ⟨rfl,rfl⟩))
 | k+4,h=>simp [Qbh] at h
theorem k_t01:Qaw Qbh 0 1=1:=by decide
theorem k_t12:Qaw Qbh 1 2=2:=by decide
theorem k_turn {a b:Nat}(h:Qaw Qbh a b≠1152921504606846976):a=2∧b=0∨a=0∧b=1∨a=0∧b=3∨a=1∧b=2:=by
 obtain ⟨x,y,hx,hy,e⟩:=Qcg h
 rcases k_lt hx with ⟨rfl,rfl⟩|⟨rfl,rfl⟩|⟨rfl,rfl⟩|⟨rfl,rfl⟩ <;> rcases k_lt hy with ⟨rfl,rfl⟩|⟨rfl,rfl⟩|⟨rfl,rfl⟩|⟨rfl,rfl⟩ <;>
  first
  | exact absurd e (by decide)
  | exact .inl ⟨rfl,rfl⟩
  | exact .inr (.inl ⟨rfl,rfl⟩)
  | exact .inr (.inr (.inl ⟨rfl,rfl⟩))
  | exact .inr (.inr (.inr ⟨rfl,rfl⟩))
  | exact absurd (by decide) h
theorem k_ent1:Qhk Qbh (Qdz [0,0,1] 0) 2 1 11:=by
 have hr:∀ p c,Rch (StA Qbh (Qdz [0,0,1] 0)) 2 p c→p=2∧c=0∨p=0∧c=10∨p=3∧c=55:=by
  intro p c h
  induction h with
  | start=>exact .inl ⟨rfl,rfl⟩
  | step _ h2 ih =>
   obtain ⟨y,hy,h3,_,h4,h5,rfl⟩:=h2
   rcases k_turn h3 with ⟨rfl,rfl⟩|⟨rfl,rfl⟩|⟨rfl,rfl⟩|⟨rfl,rfl⟩
   · cases hy
     refine .inr (.inl ⟨rfl,?_⟩)
     rcases ih with ⟨_,rfl⟩|⟨h,_⟩|⟨h,_⟩
     · decide
     · exact absurd h (by decide)
     · exact absurd h (by decide)
   · cases hy
     exact absurd h5 (by decide)
   · cases hy
     refine .inr (.inr ⟨rfl,?_⟩)
     rcases ih with ⟨h,_⟩|⟨_,rfl⟩|⟨h,_⟩
     · exact absurd h (by decide)
     · decide
     · exact absurd h (by decide)
   · cases hy
     exact absurd h4 (by decide)
 refine .inl ⟨⟨0,10,1,?_,⟨by decide,by decide⟩,rfl⟩,fun v hv=>?_⟩
 · exact Rch.start.step (show StA Qbh (Qdz [0,0,1] 0) 2 0 10 from ⟨(0,1,10),rfl,by decide,by decide,by decide,by decide,by decide⟩)
 · obtain ⟨p,c,d,h1,⟨h2,rfl⟩,rfl⟩:=hv
   rcases hr p c h1 with ⟨rfl,rfl⟩|⟨rfl,rfl⟩|⟨rfl,rfl⟩
   · exact absurd (by decide) h2
   · rw [k_t01];decide
   · exact absurd (by decide) h2
theorem k_ent2:Qhk Qbh (Qdz [0,0,1] 1) 1 2 2:=by
 have hr:∀ p c,Rch (StA Qbh (Qdz [0,0,1] 1)) 1 p c→p=1∧c=0:=by
  intro p c h
  induction h with
  | start=>exact ⟨rfl,rfl⟩
  | step _ h2 ih =>
   obtain ⟨y,hy,h3,_,h4,h5,rfl⟩:=h2
   rcases k_turn h3 with ⟨rfl,rfl⟩|⟨rfl,rfl⟩|⟨rfl,rfl⟩|⟨rfl,rfl⟩ <;> cases hy
   · exact absurd h4 (by decide)
   · exact absurd h4 (by decide)
   · exact absurd h4 (by decide)
   · exact absurd h5 (by decide)
 refine .inl ⟨⟨1,0,2,.start,⟨by decide,by decide⟩,rfl⟩,fun v hv=>?_⟩;obtain ⟨p,c,d,h1,⟨h2,rfl⟩,rfl⟩:=hv;obtain ⟨rfl,rfl⟩:=hr p c h1;rw [k_t12]
 decide
theorem k_all:Qfe Qbh Qid [11,2]:=by
 refine ⟨by rw [Qoa];rfl,fun k v hk=>?_⟩
 match k,hk with
 | 0,hk =>
  cases hk
  exact ⟨0,[0,0,1],0,([2],[1]),0,0,2,1,⟨rfl,by rw [Qlg];rfl,rfl,rfl,by rw [Qjy,Qlg];decide⟩,k_ent1⟩
 | 1,hk =>
  cases hk
  exact ⟨0,[0,0,1],1,([1],[2]),0,0,1,2,⟨rfl,by rw [Qlg];rfl,rfl,rfl,by rw [Qjy,Qlg];decide⟩,k_ent2⟩
 | k+2,hk=>simp at hk
theorem k_part:Qcl Qbh.vs.length Qid:=twoL_ok
def Qdi:Qaj:=Qbh.setW 0 0 1 30
def ch30:List Chn:=[(1,0,0,0,30)]
theorem Qwc:Qbj Qbh ch30:=⟨fun c hc=>by
 obtain rfl:c=(1,0,0,0,30):=by simpa [ch30] using hc
 exact .inl ⟨0,rfl,rfl,rfl,rfl,by decide,by decide⟩,by simp [ch30]⟩
theorem Qej:Kin Qbh Qdi:=(Qcb Qwc).kin
theorem m_lt {a:Nat}{y:Tri} (h:Qdi.ar[a]?=some y):a=0∧y=(0,1,30)∨a=1∧y=(1,2,20)∨a=2∧y=(2,0,30)∨a=3∧y=(1,0,40):=by
 match a,h with
 | 0,h=>cases h;exact .inl ⟨rfl,rfl⟩
 | 1,h=>cases h;exact .inr (.inl ⟨rfl,rfl⟩)
 | 2,h=>cases h;exact .inr (.inr (.inl ⟨rfl,rfl⟩))
 | 3,h=>cases h;exact .inr (.inr (.inr ⟨rfl,rfl⟩))
 | k+4,h=>simp [Qdi,Qbh,Qaj.setW] at h
theorem m_turn {a b:Nat}(h:Qaw Qdi a b≠1152921504606846976):a=2∧b=0∨a=0∧b=1∨a=0∧b=3∨a=1∧b=2:=by
 obtain ⟨x,y,hx,hy,e⟩:=Qcg h
 rcases m_lt hx with ⟨rfl,rfl⟩|⟨rfl,rfl⟩|⟨rfl,rfl⟩|⟨rfl,rfl⟩ <;> rcases m_lt hy with ⟨rfl,rfl⟩|⟨rfl,rfl⟩|⟨rfl,rfl⟩|⟨rfl,rfl⟩ <;>
  first
  | exact absurd e (by decide)
  | exact .inl ⟨rfl,rfl⟩
  | exact .inr (.inl ⟨rfl,rfl⟩)
  | exact .inr (.inr (.inl ⟨rfl,rfl⟩))
  | exact .inr (.inr (.inr ⟨rfl,rfl⟩))
  | exact absurd (by decide) h
theorem m_t01:Qaw Qdi 0 1=1:=by decide
theorem m_ent1:Qhk Qdi (Qdz [0,0,1] 0) 2 1 31:=by
 have hr:∀ p c,Rch (StA Qdi (Qdz [0,0,1] 0)) 2 p c→p=2∧c=0∨p=0∧c=30∨p=3∧c=75:=by
  intro p c h
  induction h with
  | start=>exact .inl ⟨rfl,rfl⟩
  | step _ h2 ih =>
   obtain ⟨y,hy,h3,_,h4,h5,rfl⟩:=h2
   rcases m_turn h3 with ⟨rfl,rfl⟩|⟨rfl,rfl⟩|⟨rfl,rfl⟩|⟨rfl,rfl⟩
   · cases hy
     refine .inr (.inl ⟨rfl,?_⟩)
     rcases ih with ⟨_,rfl⟩|⟨h,_⟩|⟨h,_⟩
     · decide
     · exact absurd h (by decide)
     · exact absurd h (by decide)
   · cases hy
     exact absurd h5 (by decide)
   · cases hy
     refine .inr (.inr ⟨rfl,?_⟩)
     rcases ih with ⟨h,_⟩|⟨_,rfl⟩|⟨h,_⟩
     · exact absurd h (by decide)
     · decide
     · exact absurd h (by decide)
   · cases hy
     exact absurd h4 (by decide)
 refine .inl ⟨⟨0,30,1,?_,⟨by decide,by decide⟩,rfl⟩,fun v hv=>?_⟩
 · exact Rch.start.step (show StA Qdi (Qdz [0,0,1] 0) 2 0 30 from ⟨(0,1,30),rfl,by decide,by decide,by decide,by decide,by decide⟩)
 · obtain ⟨p,c,d,h1,⟨h2,rfl⟩,rfl⟩:=hv
   rcases hr p c h1 with ⟨rfl,rfl⟩|⟨rfl,rfl⟩|⟨rfl,rfl⟩
   · exact absurd (by decide) h2
   · rw [m_t01];decide
   · exact absurd (by decide) h2
theorem m_t12:Qaw Qdi 1 2=2:=by decide
theorem m_ent2:Qhk Qdi (Qdz [0,0,1] 1) 1 2 2:=by
 have hr:∀ p c,Rch (StA Qdi (Qdz [0,0,1] 1)) 1 p c→p=1∧c=0:=by
  intro p c h
  induction h with
  | start=>exact ⟨rfl,rfl⟩
  | step _ h2 ih =>
   obtain ⟨y,hy,h3,_,h4,h5,rfl⟩:=h2
   rcases m_turn h3 with ⟨rfl,rfl⟩|⟨rfl,rfl⟩|⟨rfl,rfl⟩|⟨rfl,rfl⟩ <;> cases hy
   · exact absurd h4 (by decide)
   · exact absurd h4 (by decide)
   · exact absurd h4 (by decide)
   · exact absurd h5 (by decide)
 refine .inl ⟨⟨1,0,2,.start,⟨by decide,by decide⟩,rfl⟩,fun v hv=>?_⟩;obtain ⟨p,c,d,h1,⟨h2,rfl⟩,rfl⟩:=hv;obtain ⟨rfl,rfl⟩:=hr p c h1;rw [m_t12]
 decide
theorem m_all:Qfe Qdi Qid [31,2]:=by
 have e1:gatesOf Qdi.ar Qid=gatesOf Qbh.ar Qid:=Qej.al.gatesOf _;have e2:∀ l,gateRow Qdi.ar l=gateRow Qbh.ar l:=fun l=>Qej.al.gateRow l
 refine ⟨by rw [e1,Qoa];rfl,fun k v hk=>?_⟩
 match k,hk with
 | 0,hk =>
  cases hk
  exact ⟨0,[0,0,1],0,([2],[1]),0,0,2,1,⟨rfl,by rw [e2,Qlg];rfl,rfl,rfl,by rw [e1,e2,Qjy,Qlg];decide⟩,m_ent1⟩
 | 1,hk =>
  cases hk
  exact ⟨0,[0,0,1],1,([1],[2]),0,0,1,2,⟨rfl,by rw [e2,Qlg];rfl,rfl,rfl,by rw [e1,e2,Qjy,Qlg];decide⟩,m_ent2⟩
 | k+2,hk=>simp at hk
theorem Qfz {l:List Int}{j:Nat}{x:Int} (h:l[j]?=some x):Qad (l.take (j+1))=Qad (l.take j) ++Qad [x]:=by
 rw [List.take_succ_eq_append_getElem (Zs h).1,(Zs h).2,Qbz]
set_option maxHeartbeats 4000000 in
set_option maxRecDepth 20000 in
theorem Qsw (g:Nat)(N:Qaj)(Q:Option Addr)(L cq n:Nat) (ls:List (List Int)) (w:World) (h:Qgk w g N) (hN:Qas N) (hq:RdT w Q L ls) (hP:Qcl n ls) (hn:N.vs.length=n) :
 Calls prog 35 #[.pointer (some ⟨g,0,none⟩),.agg #[.slice Q L cq]] w fun e w'=>∃ o,e=.returned (.tuple #[.pointer (some ⟨o,0,none⟩),.nilIface])∧Qex (msk w' (fun b=>w.heap.size≤b∧b<w'.heap.size)) o N.ar ls∧Below w.heap.size w w':=by
 have HG:=Zh h;have HN:=Zh hN;have HT:=Zh hq;have HP:=Zh hP;have HVN:=Zh hn;have hn4:n≤4096:=by rw [←hn];exact hN.lv
 have HM:=Zh hN.la;have l6:L≤6:=by rw [←hq.1];exact hP.l6
 clear h hN hq hP hn
 go_enter func35,ntmps35
 go_wp2_with fail
 (refine Qah ?_;intro w1 hw1)
 have hb1:Below w.heap.size w w1:=by rw [hw1];exact Qae
 have hQ:Blk w1 w.heap.size 89 #[.slice Q L cq]:=by rw [hw1];exact Qau
 have hzz1:w.heap.size+1≤w1.heap.size:=by rw [hw1];simp
 clear hw1
 have HSX:=Zh (show ∀ V,Below w1.heap.size w1 V→V.cell? ⟨w.heap.size,0,none⟩=some (.slice Q L cq) from fun V hV=>by
  have:=(hQ.below hV hQ.lt).cell 0
  simpa using this)
 refine wp_region_held_drew (S:=fun V=>Below w1.heap.size w1 V) (by kernel_rfl) (Zr _ _).drew (fun _=>?_);refine tz 0 14 ?_;refine tz 2 16 ?_;refine Zk 1 (fun K hK=>?_);go_simp;with_reducible refine (Qhw g N _ (HG.out.below (show Below w.heap.size w w1.drew from Qae))).mono ?_
 rintro e w' ⟨rfl,rfl⟩;rw [HVN.out]
 go_wp2_with fail
 refine hK.out _ _ (Zr _ _).drew (fun _=>?_);clear hK K;refine Zk 3 (fun K hK=>?_);go_simp;with_reducible refine (Qic Q n L cq ls _ (HT.out.below (show Below w.heap.size w w1.drew from Qae)) HP.out hn4).mono ?_
 rintro e w2 ⟨rfl,hb2⟩;have hb12:Below w1.heap.size w1 w2:=Zb Qae hb2;clear hb2
 go_wp2_with fail
 refine hK.out _ _ hb12 (fun _=>?_);clear hK K;refine tz 4 6 ?_;refine Zd ?_;have hbw2:=Zb hb1 hb12
 go_wp2_with fail
 refine wp_region_held_drew (S:=fun V=>Below w1.heap.size w1 V) (by kernel_rfl) hb12.drew (fun _=>?_);refine tz 0 21 ?_;refine tz 2 23 ?_;refine tz 3 24 ?_;refine Zk 1 (fun K hK=>?_);go_simp;with_reducible refine (Qrc Q L cq ls _ (HT.out.below (show Below w.heap.size w w2.drew from Qae)) (by omega) (fun l hl=>by have:=(HP.out.lvl l hl).len;omega)).mono ?_
 rintro e w3 ⟨Q3,cq3,rfl,hq3,hq3a,hq3b,hb3⟩;have hb23:Below w2.heap.size w2 w3:=(Zr _ w2).drew.trans hb3;have hq3:RdT (msk w3 (fun b=>w2.heap.size≤b∧b<w3.heap.size)) Q3 L ls:=hq3;have hb13:Below w1.heap.size w1 w3:=Zb hb12 hb23;have hbw3:=Zb hbw2 hb23;clear hb3
 go_wp2_with fail
 refine hK.out _ _ hb13 (fun _=>?_);clear hK K;refine Zk 4 (fun K hK=>?_);go_simp;with_reducible refine (Qve g N Q L cq n ls w3 (HG.out.below hbw3) HN.out (HT.out.below hbw3) HP.out HVN.out).mono ?_
 rintro e w4 ⟨G4,rfl,hg4,hb4⟩;have hb14:Below w1.heap.size w1 w4:=Zb hb13 hb4;have hbw4:=Zb hbw3 hb4
 go_wp2_with fail
 refine hK.out _ _ hb14 (fun _=>?_);clear hK K;refine tz 5 26 ?_;refine Zk 6 (fun K hK=>?_);go_simp;refine hK.out _ _ (Bel.alloc hb14) (fun _=>?_);clear hK K;refine tz 7 7 ?_;refine Zd ?_;obtain ⟨w5,hw5⟩:∃ w5,w5=w4.alloc (.cells #[.slice Q3 L cq3,.slice none 0 0,.slice none 0 0,.slice G4 L L,.slice none 0 0,.int .i64 0] 157):=⟨_,rfl⟩;rw [←hw5];have hb45:Below w4.heap.size w4 w5:=by rw [hw5];exact Qae
 have hO5:Blk w5 w4.heap.size 157 #[.slice Q3 L cq3,.slice none 0 0,.slice none 0 0,.slice G4 L L,.slice none 0 0,.int .i64 0]:=by rw [hw5];exact Blk.new _ _ _
 have hz5:w5.heap.size=w4.heap.size+1:=by rw [hw5];simp
 clear hw5 HSX hQ;have hz12:=hb12.size;have hz23:=hb23.size;have hz34:=hb4.size;have HQ4:=Zh (show RdT (msk w4 (fun b=>w.heap.size≤b∧b<w4.heap.size)) Q3 L ls from hq3.le (Le.trans (Qaz.msk (Qaz.below hb4 |>.mono (fun b hb=>hb))) (Qbn (fun b hb=>⟨by omega,by omega⟩))))
 have HG4:=Zh (show RdG (msk w4 (fun b=>w.heap.size≤b∧b<w4.heap.size)) G4 L (gatesOf N.ar ls) from hg4.le (Qbn (fun b hb=>⟨by omega,hb.2⟩)))
 have HCQ:=Zh (And.intro hq3a hq3b);clear hq3 hg4 hb4 hb23 hb12 hb13 hb14 hbw2 hbw3 hq3a hq3b
 go_wp2_with fail
 with_reducible refine (Qgu g N w5 (HG.out.below (Zb hbw4 hb45))).mono ?_
 rintro e w' ⟨rfl,rfl⟩;have hm:N.ar.length≤16384:=HM.out;generalize hMM:N.ar.length=M at *;have HML:=Zh hMM;clear hMM
 go_wp2_with fail
 go_loopw [30] (fun q W=>w4.heap.size+1≤W.heap.size∧Below w4.heap.size w4 W∧∃ (j:Nat) (F:Option Addr) (cF:Nat) (T:Option Addr) (cT:Nat),j≤M∧q=.int .i64 j∧Blk W w4.heap.size 157 #[.slice Q3 L cq3,.slice F j cF,.slice T j cT,.slice G4 L L,.slice none 0 0,.int .i64 0]∧Own W (w4.heap.size+1) 3 1 F j cF (Qad ((N.ar.map (·.1)).take j))∧Own W (w4.heap.size+1) 3 1 T j cT (Qad ((N.ar.map (·.2.1)).take j))∧Dj F T) (fun q _=>M-(intOf q).toNat)
 case atStart=>exact ⟨by omega,hb45,0,none,0,none,0,Nat.zero_le _,rfl,hO5,Own.nil _ _ _ _,Own.nil _ _ _ _,.inl rfl⟩
 case round =>
  clear hb45 hO5 hz5;obtain ⟨hzwr,hbwr,j,F,cF,T,cT,hj,rfl,hOwr,hoF,hoT,hdj⟩:=hrel
  by_cases hlt:j<M
  · obtain ⟨⟨x,y,z⟩,hx⟩:∃ x,N.ar[j]?=some x:=⟨_,Zg (by rw [HML.out];exact hlt)⟩
    have HNF:=Zh (Qfz (l:=N.ar.map (·.1)) (j:=j) (x:=x) (by rw [List.getElem?_map,hx];rfl));have HNT:=Zh (Qfz (l:=N.ar.map (·.2.1)) (j:=j) (x:=y) (by rw [List.getElem?_map,hx];rfl));have HFR:=Zh (show ∀ V,Below w4.heap.size w4 V→Calls prog 56 #[.pointer (some ⟨g,0,none⟩),.int .i64 j] V fun e w'=>e=.returned (.int .i64 x)∧V=w' from fun V hV=>Qgz g j N _ V (HG.out.below (Zb hbw4 hV)) hx)
    have HTO:=Zh (show ∀ V,Below w4.heap.size w4 V→Calls prog 57 #[.pointer (some ⟨g,0,none⟩),.int .i64 j] V fun e w'=>e=.returned (.int .i64 y)∧V=w' from fun V hV=>Qkp g j N _ V (HG.out.below (Zb hbw4 hV)) hx)
    have i1:(0:Int)≤(j:Int):=by omega
    have i2:(j:Int)<(M:Int):=by omega
    clear hx
    go_wp2_with fail
    refine wp_region_held_drew (S:=fun V=>Below w4.heap.size w4 V) (by kernel_rfl) hbwr.drew (fun _=>?_);refine tz 0 33 ?_;refine tz 1 34 ?_;refine tz 2 35 ?_;refine tz 3 36 ?_;refine tz 5 38 ?_;refine tz 6 39 ?_;refine wpAnyH_ready (rs:=[4,7]) (by kernel_rfl) (by simp) ?_;refine AllReadyH.cons (o:=_) rfl (fun K hK=>?_) (AllReadyH.cons (o:=_) rfl (fun K hK=>?_) AllReadyH.nil)
    · obtain ⟨o0,o1,o2,o3,o4,o5⟩:=hOwr.six
      go_simp;refine hK.out _ _ hbwr.drew (fun _=>?_);clear hK K o0 o1 o2 o3 o4 o5;refine Zk 7 (fun K hK=>?_);go_simp;with_reducible refine (HFR.out _ hbwr.drew).mono ?_
      rintro e w' ⟨rfl,rfl⟩
      go_wp2_with fail
      refine hK.out _ _ hbwr.drew (fun _=>?_);clear hK K;refine Zk 8 (fun K hK=>?_);go_simp;refine hK.out _ _ ((hbwr.alloc (by omega) _).drew) (fun _=>?_);clear hK K;obtain ⟨WA,hWA⟩:∃ WA,WA=(wr.alloc (.cells #[.int .i64 x] 3)).drew:=⟨_,rfl⟩;rw [←hWA];have hbA:Below wr.heap.size wr WA:=by rw [hWA];exact Qae
      have hrA:Rds WA 1 (some ⟨wr.heap.size,0,none⟩) 1 (Qad [x]):=by rw [hWA];exact (Blk.new wr 3 (Qcf [x])).rds rfl
      clear hWA;have hoA:=hoF.below hbA;have hoB:=hoT.below hbA;have hOA:=hOwr.below hbA hOwr.lt;have hb4A:Below w4.heap.size w4 WA:=hbwr.trans (hbA.mono (by omega));have hszA:w4.heap.size+1≤WA.heap.size:=Nat.le_trans hzwr hbA.size;refine Zk 9 (fun K hK=>?_);with_reducible refine Qai (some 42) rfl rfl (.tmp 37) (.tmp 41) 93 rfl 3 _ 1 8 Qay underlying93 rfl (by omega) rfl rfl hoA hrA (Qak _) (by omega) (by omega) (by omega) ?_
      intro F2 cF2 w' hown' hg hat;have hO':=hOA.grown hg (hoA.ne (by omega));have hoB':=hoB.far hg hdj.far;have hDJ:=hdj.next hoB hat;have hb4':Below w4.heap.size w4 w':=Bel.grownOwn hb4A hg (hoA.mono (by omega)) (by omega);have hz':=hg.size;clear hOA hoA hoB hrA hg hat hbA hb4A;refine hK.out _ _ hb4' (fun _=>?_);clear hK K;simp only [Act.put,List.setIfInBounds_toArray,List.set_cons_zero,List.set_cons_succ];refine tz 10 43 ?_;refine tz 11 44 ?_;obtain ⟨o0,o1,o2,o3,o4,o5⟩:=hO'.six;have of:=hO'.frozen 1;refine Zk 12 (fun K hK=>?_);go_simp;refine hK.out _ _ (hb4'.setCell (by simp) _) (fun _=>?_);clear hK K;refine Zd ?_;obtain ⟨W6,hwW6⟩:∃ W6,W6=w'.setCell ⟨w4.heap.size,1,none⟩ (.slice F2 (j+1) cF2):=⟨_,rfl⟩;rw [←hwW6];have hOW6:Blk W6 w4.heap.size 157 #[.slice Q3 L cq3,.slice F2 (j+1) cF2,.slice T j cT,.slice G4 L L,.slice none 0 0,.int .i64 0]:=by rw [hwW6];exact hO'.set_ 1 _
      have hoAW6:Own W6 (w4.heap.size+1) 3 1 F2 (j+1) cF2 (Qad ((N.ar.map (·.1)).take (j+1))):=by rw [hwW6,HNF.out];exact hown'.far (Qaa _ _ _ _) (.inr (hown'.ne (by omega)))
      have hoBW6:=hoB'.far (Qaa w' w4.heap.size 1 (.slice F2 (j+1) cF2)) (.inr (hoB'.ne (by omega)));rw [←hwW6] at hoBW6;have hbW6:Below w4.heap.size w4 W6:=by rw [hwW6];exact hb4'.setCell (by simp) _
      have hzW6:w4.heap.size+1≤W6.heap.size:=by rw [hwW6];simp [World.setCell];omega
      clear hwW6 hO' hoB' hown' hb4' o0 o1 o2 o3 o4 o5 of hOwr hoF hoT hbwr
      go_wp2_with fail
      refine wp_region_held_drew (S:=fun V=>Below w4.heap.size w4 V) (by kernel_rfl) hbW6.drew (fun _=>?_);refine tz 0 45 ?_;refine tz 1 46 ?_;refine tz 2 47 ?_;refine tz 3 48 ?_;refine tz 5 50 ?_;refine tz 6 51 ?_;refine wpAnyH_ready (rs:=[4,7]) (by kernel_rfl) (by simp) ?_;refine AllReadyH.cons (o:=_) rfl (fun K hK=>?_) (AllReadyH.cons (o:=_) rfl (fun K hK=>?_) AllReadyH.nil)
      · obtain ⟨o0,o1,o2,o3,o4,o5⟩:=hOW6.six
        go_simp;refine hK.out _ _ hbW6.drew (fun _=>?_);clear hK K o0 o1 o2 o3 o4 o5;refine Zk 7 (fun K hK=>?_);go_simp;with_reducible refine (HTO.out _ hbW6.drew).mono ?_
        rintro e w' ⟨rfl,rfl⟩
        go_wp2_with fail
        refine hK.out _ _ hbW6.drew (fun _=>?_);clear hK K;refine Zk 8 (fun K hK=>?_);go_simp;refine hK.out _ _ ((hbW6.alloc (by omega) _).drew) (fun _=>?_);clear hK K;obtain ⟨WA,hWA⟩:∃ WA,WA=(W6.alloc (.cells #[.int .i64 y] 3)).drew:=⟨_,rfl⟩;rw [←hWA];have hbA:Below W6.heap.size W6 WA:=by rw [hWA];exact Qae
        have hrA:Rds WA 1 (some ⟨W6.heap.size,0,none⟩) 1 (Qad [y]):=by rw [hWA];exact (Blk.new W6 3 (Qcf [y])).rds rfl
        clear hWA;have hoA:=hoBW6.below hbA;have hoB:=hoAW6.below hbA;have hOA:=hOW6.below hbA hOW6.lt;have hb4A:Below w4.heap.size w4 WA:=hbW6.trans (hbA.mono (by omega));have hszA:w4.heap.size+1≤WA.heap.size:=Nat.le_trans hzW6 hbA.size;refine Zk 9 (fun K hK=>?_);with_reducible refine Qai (some 54) rfl rfl (.tmp 49) (.tmp 53) 93 rfl 3 _ 1 8 Qay underlying93 rfl (by omega) rfl rfl hoA hrA (Qak _) (by omega) (by omega) (by omega) ?_
        intro T2 cT2 w' hown' hg hat;have hO':=hOA.grown hg (hoA.ne (by omega));have hoB':=hoB.far hg hDJ.symm.far;have hDJ2:=hDJ.symm.next hoB hat;have hb4':Below w4.heap.size w4 w':=Bel.grownOwn hb4A hg (hoA.mono (by omega)) (by omega);have hz':=hg.size;clear hOA hoA hoB hrA hg hat hbA hb4A;refine hK.out _ _ hb4' (fun _=>?_);clear hK K;simp only [Act.put,List.setIfInBounds_toArray,List.set_cons_zero,List.set_cons_succ];refine tz 10 55 ?_;refine tz 11 56 ?_;obtain ⟨o0,o1,o2,o3,o4,o5⟩:=hO'.six;have of:=hO'.frozen 2;refine Zk 12 (fun K hK=>?_);go_simp;refine hK.out _ _ (hb4'.setCell (by simp) _) (fun _=>?_);clear hK K;refine Zd ?_;obtain ⟨W7,hwW7⟩:∃ W7,W7=w'.setCell ⟨w4.heap.size,2,none⟩ (.slice T2 (j+1) cT2):=⟨_,rfl⟩;rw [←hwW7];have hOW7:Blk W7 w4.heap.size 157 #[.slice Q3 L cq3,.slice F2 (j+1) cF2,.slice T2 (j+1) cT2,.slice G4 L L,.slice none 0 0,.int .i64 0]:=by rw [hwW7];exact hO'.set_ 2 _
        have hoAW7:Own W7 (w4.heap.size+1) 3 1 T2 (j+1) cT2 (Qad ((N.ar.map (·.2.1)).take (j+1))):=by rw [hwW7,HNT.out];exact hown'.far (Qaa _ _ _ _) (.inr (hown'.ne (by omega)))
        have hoBW7:=hoB'.far (Qaa w' w4.heap.size 2 (.slice T2 (j+1) cT2)) (.inr (hoB'.ne (by omega)));rw [←hwW7] at hoBW7;have hbW7:Below w4.heap.size w4 W7:=by rw [hwW7];exact hb4'.setCell (by simp) _
        have hzW7:w4.heap.size+1≤W7.heap.size:=by rw [hwW7];simp [World.setCell];omega
        clear hwW7 hO' hoB' hown' hb4' o0 o1 o2 o3 o4 o5 of hOW6 hoBW6 hoAW6 hbW6
        go_wp2_with fail
        go_roundw
        case rel=>exact ⟨hzW7,hbW7,j+1,F2,cF2,T2,cT2,by omega,by go_num,hOW7,hoBW7,hoAW7,hDJ2.symm⟩
        case measure=>simp [intOf];omega
      · go_simp
        with_reducible refine (HTO.out _ hbW6.drew).mono ?_
        rintro e w' ⟨rfl,rfl⟩
        go_wp2_with fail
        refine hK.out _ _ hbW6.drew (fun _=>?_);clear hK K;refine wpAnyH_ready (rs:=[4,8]) (by kernel_rfl) (by simp) ?_;refine AllReadyH.cons (o:=_) rfl (fun K hK=>?_) (AllReadyH.cons (o:=_) rfl (fun K hK=>?_) AllReadyH.nil)
        · obtain ⟨o0,o1,o2,o3,o4,o5⟩:=hOW6.six
          go_simp;refine hK.out _ _ hbW6.drew (fun _=>?_);clear hK K o0 o1 o2 o3 o4 o5;refine Zk 8 (fun K hK=>?_);go_simp;refine hK.out _ _ ((hbW6.alloc (by omega) _).drew) (fun _=>?_);clear hK K;obtain ⟨WA,hWA⟩:∃ WA,WA=(W6.alloc (.cells #[.int .i64 y] 3)).drew:=⟨_,rfl⟩;rw [←hWA];have hbA:Below W6.heap.size W6 WA:=by rw [hWA];exact Qae
          have hrA:Rds WA 1 (some ⟨W6.heap.size,0,none⟩) 1 (Qad [y]):=by rw [hWA];exact (Blk.new W6 3 (Qcf [y])).rds rfl
          clear hWA;have hoA:=hoBW6.below hbA;have hoB:=hoAW6.below hbA;have hOA:=hOW6.below hbA hOW6.lt;have hb4A:Below w4.heap.size w4 WA:=hbW6.trans (hbA.mono (by omega));have hszA:w4.heap.size+1≤WA.heap.size:=Nat.le_trans hzW6 hbA.size;refine Zk 9 (fun K hK=>?_);with_reducible refine Qai (some 54) rfl rfl (.tmp 49) (.tmp 53) 93 rfl 3 _ 1 8 Qay underlying93 rfl (by omega) rfl rfl hoA hrA (Qak _) (by omega) (by omega) (by omega) ?_
          intro T2 cT2 w' hown' hg hat;have hO':=hOA.grown hg (hoA.ne (by omega));have hoB':=hoB.far hg hDJ.symm.far;have hDJ2:=hDJ.symm.next hoB hat;have hb4':Below w4.heap.size w4 w':=Bel.grownOwn hb4A hg (hoA.mono (by omega)) (by omega);have hz':=hg.size;clear hOA hoA hoB hrA hg hat hbA hb4A;refine hK.out _ _ hb4' (fun _=>?_);clear hK K;simp only [Act.put,List.setIfInBounds_toArray,List.set_cons_zero,List.set_cons_succ];refine tz 10 55 ?_;refine tz 11 56 ?_;obtain ⟨o0,o1,o2,o3,o4,o5⟩:=hO'.six;have of:=hO'.frozen 2;refine Zk 12 (fun K hK=>?_);go_simp;refine hK.out _ _ (hb4'.setCell (by simp) _) (fun _=>?_);clear hK K;refine Zd ?_;obtain ⟨W7,hwW7⟩:∃ W7,W7=w'.setCell ⟨w4.heap.size,2,none⟩ (.slice T2 (j+1) cT2):=⟨_,rfl⟩;rw [←hwW7];have hOW7:Blk W7 w4.heap.size 157 #[.slice Q3 L cq3,.slice F2 (j+1) cF2,.slice T2 (j+1) cT2,.slice G4 L L,.slice none 0 0,.int .i64 0]:=by rw [hwW7];exact hO'.set_ 2 _
          have hoAW7:Own W7 (w4.heap.size+1) 3 1 T2 (j+1) cT2 (Qad ((N.ar.map (·.2.1)).take (j+1))):=by rw [hwW7,HNT.out];exact hown'.far (Qaa _ _ _ _) (.inr (hown'.ne (by omega)))
          have hoBW7:=hoB'.far (Qaa w' w4.heap.size 2 (.slice T2 (j+1) cT2)) (.inr (hoB'.ne (by omega)));rw [←hwW7] at hoBW7;have hbW7:Below w4.heap.size w4 W7:=by rw [hwW7];exact hb4'.setCell (by simp) _
          have hzW7:w4.heap.size+1≤W7.heap.size:=by rw [hwW7];simp [World.setCell];omega
          clear hwW7 hO' hoB' hown' hb4' o0 o1 o2 o3 o4 o5 of hOW6 hoBW6 hoAW6 hbW6
          go_wp2_with fail
          go_roundw
          case rel=>exact ⟨hzW7,hbW7,j+1,F2,cF2,T2,cT2,by omega,by go_num,hOW7,hoBW7,hoAW7,hDJ2.symm⟩
          case measure=>simp [intOf];omega
        · go_simp
          refine hK.out _ _ ((hbW6.alloc (by omega) _).drew) (fun _=>?_);clear hK K;have o1:=fun ob=>(hOW6.alloc ob).six.2.1
          have o2:=fun ob=>(hOW6.alloc ob).six.2.2.1
          refine Zk 4 (fun K hK=>?_);go_simp;refine hK.out _ _ ((hbW6.alloc (by omega) _).drew) (fun _=>?_);clear hK K o1 o2;obtain ⟨WA,hWA⟩:∃ WA,WA=(W6.alloc (.cells #[.int .i64 y] 3)).drew:=⟨_,rfl⟩;rw [←hWA];have hbA:Below W6.heap.size W6 WA:=by rw [hWA];exact Qae
          have hrA:Rds WA 1 (some ⟨W6.heap.size,0,none⟩) 1 (Qad [y]):=by rw [hWA];exact (Blk.new W6 3 (Qcf [y])).rds rfl
          clear hWA;have hoA:=hoBW6.below hbA;have hoB:=hoAW6.below hbA;have hOA:=hOW6.below hbA hOW6.lt;have hb4A:Below w4.heap.size w4 WA:=hbW6.trans (hbA.mono (by omega));have hszA:w4.heap.size+1≤WA.heap.size:=Nat.le_trans hzW6 hbA.size;refine Zk 9 (fun K hK=>?_);with_reducible refine Qai (some 54) rfl rfl (.tmp 49) (.tmp 53) 93 rfl 3 _ 1 8 Qay underlying93 rfl (by omega) rfl rfl hoA hrA (Qak _) (by omega) (by omega) (by omega) ?_
          intro T2 cT2 w' hown' hg hat;have hO':=hOA.grown hg (hoA.ne (by omega));have hoB':=hoB.far hg hDJ.symm.far;have hDJ2:=hDJ.symm.next hoB hat;have hb4':Below w4.heap.size w4 w':=Bel.grownOwn hb4A hg (hoA.mono (by omega)) (by omega);have hz':=hg.size;clear hOA hoA hoB hrA hg hat hbA hb4A;refine hK.out _ _ hb4' (fun _=>?_);clear hK K;simp only [Act.put,List.setIfInBounds_toArray,List.set_cons_zero,List.set_cons_succ];refine tz 10 55 ?_;refine tz 11 56 ?_;obtain ⟨o0,o1,o2,o3,o4,o5⟩:=hO'.six;have of:=hO'.frozen 2;refine Zk 12 (fun K hK=>?_);go_simp;refine hK.out _ _ (hb4'.setCell (by simp) _) (fun _=>?_);clear hK K;refine Zd ?_;obtain ⟨W7,hwW7⟩:∃ W7,W7=w'.setCell ⟨w4.heap.size,2,none⟩ (.slice T2 (j+1) cT2):=⟨_,rfl⟩;rw [←hwW7];have hOW7:Blk W7 w4.heap.size 157 #[.slice Q3 L cq3,.slice F2 (j+1) cF2,.slice T2 (j+1) cT2,.slice G4 L L,.slice none 0 0,.int .i64 0]:=by rw [hwW7];exact hO'.set_ 2 _
          have hoAW7:Own W7 (w4.heap.size+1) 3 1 T2 (j+1) cT2 (Qad ((N.ar.map (·.2.1)).take (j+1))):=by rw [hwW7,HNT.out];exact hown'.far (Qaa _ _ _ _) (.inr (hown'.ne (by omega)))
          have hoBW7:=hoB'.far (Qaa w' w4.heap.size 2 (.slice T2 (j+1) cT2)) (.inr (hoB'.ne (by omega)));rw [←hwW7] at hoBW7;have hbW7:Below w4.heap.size w4 W7:=by rw [hwW7];exact hb4'.setCell (by simp) _
          have hzW7:w4.heap.size+1≤W7.heap.size:=by rw [hwW7];simp [World.setCell];omega
          clear hwW7 hO' hoB' hown' hb4' o0 o1 o2 o3 o4 o5 of hOW6 hoBW6 hoAW6 hbW6
          go_wp2_with fail
          go_roundw
          case rel=>exact ⟨hzW7,hbW7,j+1,F2,cF2,T2,cT2,by omega,by go_num,hOW7,hoBW7,hoAW7,hDJ2.symm⟩
          case measure=>simp [intOf];omega
    · go_simp
      with_reducible refine (HFR.out _ hbwr.drew).mono ?_
      rintro e w' ⟨rfl,rfl⟩
      go_wp2_with fail
      refine hK.out _ _ hbwr.drew (fun _=>?_);clear hK K;refine wpAnyH_ready (rs:=[4,8]) (by kernel_rfl) (by simp) ?_;refine AllReadyH.cons (o:=_) rfl (fun K hK=>?_) (AllReadyH.cons (o:=_) rfl (fun K hK=>?_) AllReadyH.nil)
      · obtain ⟨o0,o1,o2,o3,o4,o5⟩:=hOwr.six
        go_simp;refine hK.out _ _ hbwr.drew (fun _=>?_);clear hK K o0 o1 o2 o3 o4 o5;refine Zk 8 (fun K hK=>?_);go_simp;refine hK.out _ _ ((hbwr.alloc (by omega) _).drew) (fun _=>?_);clear hK K;obtain ⟨WA,hWA⟩:∃ WA,WA=(wr.alloc (.cells #[.int .i64 x] 3)).drew:=⟨_,rfl⟩;rw [←hWA];have hbA:Below wr.heap.size wr WA:=by rw [hWA];exact Qae
        have hrA:Rds WA 1 (some ⟨wr.heap.size,0,none⟩) 1 (Qad [x]):=by rw [hWA];exact (Blk.new wr 3 (Qcf [x])).rds rfl
        clear hWA;have hoA:=hoF.below hbA;have hoB:=hoT.below hbA;have hOA:=hOwr.below hbA hOwr.lt;have hb4A:Below w4.heap.size w4 WA:=hbwr.trans (hbA.mono (by omega));have hszA:w4.heap.size+1≤WA.heap.size:=Nat.le_trans hzwr hbA.size;refine Zk 9 (fun K hK=>?_);with_reducible refine Qai (some 42) rfl rfl (.tmp 37) (.tmp 41) 93 rfl 3 _ 1 8 Qay underlying93 rfl (by omega) rfl rfl hoA hrA (Qak _) (by omega) (by omega) (by omega) ?_
        intro F2 cF2 w' hown' hg hat;have hO':=hOA.grown hg (hoA.ne (by omega));have hoB':=hoB.far hg hdj.far;have hDJ:=hdj.next hoB hat;have hb4':Below w4.heap.size w4 w':=Bel.grownOwn hb4A hg (hoA.mono (by omega)) (by omega);have hz':=hg.size;clear hOA hoA hoB hrA hg hat hbA hb4A;refine hK.out _ _ hb4' (fun _=>?_);clear hK K;simp only [Act.put,List.setIfInBounds_toArray,List.set_cons_zero,List.set_cons_succ];refine tz 10 43 ?_;refine tz 11 44 ?_;obtain ⟨o0,o1,o2,o3,o4,o5⟩:=hO'.six;have of:=hO'.frozen 1;refine Zk 12 (fun K hK=>?_);go_simp;refine hK.out _ _ (hb4'.setCell (by simp) _) (fun _=>?_);clear hK K;refine Zd ?_;obtain ⟨W6,hwW6⟩:∃ W6,W6=w'.setCell ⟨w4.heap.size,1,none⟩ (.slice F2 (j+1) cF2):=⟨_,rfl⟩;rw [←hwW6];have hOW6:Blk W6 w4.heap.size 157 #[.slice Q3 L cq3,.slice F2 (j+1) cF2,.slice T j cT,.slice G4 L L,.slice none 0 0,.int .i64 0]:=by rw [hwW6];exact hO'.set_ 1 _
        have hoAW6:Own W6 (w4.heap.size+1) 3 1 F2 (j+1) cF2 (Qad ((N.ar.map (·.1)).take (j+1))):=by rw [hwW6,HNF.out];exact hown'.far (Qaa _ _ _ _) (.inr (hown'.ne (by omega)))
        have hoBW6:=hoB'.far (Qaa w' w4.heap.size 1 (.slice F2 (j+1) cF2)) (.inr (hoB'.ne (by omega)));rw [←hwW6] at hoBW6;have hbW6:Below w4.heap.size w4 W6:=by rw [hwW6];exact hb4'.setCell (by simp) _
        have hzW6:w4.heap.size+1≤W6.heap.size:=by rw [hwW6];simp [World.setCell];omega
        clear hwW6 hO' hoB' hown' hb4' o0 o1 o2 o3 o4 o5 of hOwr hoF hoT hbwr
        go_wp2_with fail
        refine wp_region_held_drew (S:=fun V=>Below w4.heap.size w4 V) (by kernel_rfl) hbW6.drew (fun _=>?_);refine tz 0 45 ?_;refine tz 1 46 ?_;refine tz 2 47 ?_;refine tz 3 48 ?_;refine tz 5 50 ?_;refine tz 6 51 ?_;refine wpAnyH_ready (rs:=[4,7]) (by kernel_rfl) (by simp) ?_;refine AllReadyH.cons (o:=_) rfl (fun K hK=>?_) (AllReadyH.cons (o:=_) rfl (fun K hK=>?_) AllReadyH.nil)
        · obtain ⟨o0,o1,o2,o3,o4,o5⟩:=hOW6.six
          go_simp;refine hK.out _ _ hbW6.drew (fun _=>?_);clear hK K o0 o1 o2 o3 o4 o5;refine Zk 7 (fun K hK=>?_);go_simp;with_reducible refine (HTO.out _ hbW6.drew).mono ?_
          rintro e w' ⟨rfl,rfl⟩
          go_wp2_with fail
          refine hK.out _ _ hbW6.drew (fun _=>?_);clear hK K;refine Zk 8 (fun K hK=>?_);go_simp;refine hK.out _ _ ((hbW6.alloc (by omega) _).drew) (fun _=>?_);clear hK K;obtain ⟨WA,hWA⟩:∃ WA,WA=(W6.alloc (.cells #[.int .i64 y] 3)).drew:=⟨_,rfl⟩;rw [←hWA];have hbA:Below W6.heap.size W6 WA:=by rw [hWA];exact Qae
          have hrA:Rds WA 1 (some ⟨W6.heap.size,0,none⟩) 1 (Qad [y]):=by rw [hWA];exact (Blk.new W6 3 (Qcf [y])).rds rfl
          clear hWA;have hoA:=hoBW6.below hbA;have hoB:=hoAW6.below hbA;have hOA:=hOW6.below hbA hOW6.lt;have hb4A:Below w4.heap.size w4 WA:=hbW6.trans (hbA.mono (by omega));have hszA:w4.heap.size+1≤WA.heap.size:=Nat.le_trans hzW6 hbA.size;refine Zk 9 (fun K hK=>?_);with_reducible refine Qai (some 54) rfl rfl (.tmp 49) (.tmp 53) 93 rfl 3 _ 1 8 Qay underlying93 rfl (by omega) rfl rfl hoA hrA (Qak _) (by omega) (by omega) (by omega) ?_
          intro T2 cT2 w' hown' hg hat;have hO':=hOA.grown hg (hoA.ne (by omega));have hoB':=hoB.far hg hDJ.symm.far;have hDJ2:=hDJ.symm.next hoB hat;have hb4':Below w4.heap.size w4 w':=Bel.grownOwn hb4A hg (hoA.mono (by omega)) (by omega);have hz':=hg.size;clear hOA hoA hoB hrA hg hat hbA hb4A;refine hK.out _ _ hb4' (fun _=>?_);clear hK K;simp only [Act.put,List.setIfInBounds_toArray,List.set_cons_zero,List.set_cons_succ];refine tz 10 55 ?_;refine tz 11 56 ?_;obtain ⟨o0,o1,o2,o3,o4,o5⟩:=hO'.six;have of:=hO'.frozen 2;refine Zk 12 (fun K hK=>?_);go_simp;refine hK.out _ _ (hb4'.setCell (by simp) _) (fun _=>?_);clear hK K;refine Zd ?_;obtain ⟨W7,hwW7⟩:∃ W7,W7=w'.setCell ⟨w4.heap.size,2,none⟩ (.slice T2 (j+1) cT2):=⟨_,rfl⟩;rw [←hwW7];have hOW7:Blk W7 w4.heap.size 157 #[.slice Q3 L cq3,.slice F2 (j+1) cF2,.slice T2 (j+1) cT2,.slice G4 L L,.slice none 0 0,.int .i64 0]:=by rw [hwW7];exact hO'.set_ 2 _
          have hoAW7:Own W7 (w4.heap.size+1) 3 1 T2 (j+1) cT2 (Qad ((N.ar.map (·.2.1)).take (j+1))):=by rw [hwW7,HNT.out];exact hown'.far (Qaa _ _ _ _) (.inr (hown'.ne (by omega)))
          have hoBW7:=hoB'.far (Qaa w' w4.heap.size 2 (.slice T2 (j+1) cT2)) (.inr (hoB'.ne (by omega)));rw [←hwW7] at hoBW7;have hbW7:Below w4.heap.size w4 W7:=by rw [hwW7];exact hb4'.setCell (by simp) _
          have hzW7:w4.heap.size+1≤W7.heap.size:=by rw [hwW7];simp [World.setCell];omega
          clear hwW7 hO' hoB' hown' hb4' o0 o1 o2 o3 o4 o5 of hOW6 hoBW6 hoAW6 hbW6
          go_wp2_with fail
          go_roundw
          case rel=>exact ⟨hzW7,hbW7,j+1,F2,cF2,T2,cT2,by omega,by go_num,hOW7,hoBW7,hoAW7,hDJ2.symm⟩
          case measure=>simp [intOf];omega
        · go_simp
          with_reducible refine (HTO.out _ hbW6.drew).mono ?_
          rintro e w' ⟨rfl,rfl⟩
          go_wp2_with fail
          refine hK.out _ _ hbW6.drew (fun _=>?_);clear hK K;refine wpAnyH_ready (rs:=[4,8]) (by kernel_rfl) (by simp) ?_;refine AllReadyH.cons (o:=_) rfl (fun K hK=>?_) (AllReadyH.cons (o:=_) rfl (fun K hK=>?_) AllReadyH.nil)
          · obtain ⟨o0,o1,o2,o3,o4,o5⟩:=hOW6.six
            go_simp;refine hK.out _ _ hbW6.drew (fun _=>?_);clear hK K o0 o1 o2 o3 o4 o5;refine Zk 8 (fun K hK=>?_);go_simp;refine hK.out _ _ ((hbW6.alloc (by omega) _).drew) (fun _=>?_);clear hK K;obtain ⟨WA,hWA⟩:∃ WA,WA=(W6.alloc (.cells #[.int .i64 y] 3)).drew:=⟨_,rfl⟩;rw [←hWA];have hbA:Below W6.heap.size W6 WA:=by rw [hWA];exact Qae
            have hrA:Rds WA 1 (some ⟨W6.heap.size,0,none⟩) 1 (Qad [y]):=by rw [hWA];exact (Blk.new W6 3 (Qcf [y])).rds rfl
            clear hWA;have hoA:=hoBW6.below hbA;have hoB:=hoAW6.below hbA;have hOA:=hOW6.below hbA hOW6.lt;have hb4A:Below w4.heap.size w4 WA:=hbW6.trans (hbA.mono (by omega));have hszA:w4.heap.size+1≤WA.heap.size:=Nat.le_trans hzW6 hbA.size;refine Zk 9 (fun K hK=>?_);with_reducible refine Qai (some 54) rfl rfl (.tmp 49) (.tmp 53) 93 rfl 3 _ 1 8 Qay underlying93 rfl (by omega) rfl rfl hoA hrA (Qak _) (by omega) (by omega) (by omega) ?_
            intro T2 cT2 w' hown' hg hat;have hO':=hOA.grown hg (hoA.ne (by omega));have hoB':=hoB.far hg hDJ.symm.far;have hDJ2:=hDJ.symm.next hoB hat;have hb4':Below w4.heap.size w4 w':=Bel.grownOwn hb4A hg (hoA.mono (by omega)) (by omega);have hz':=hg.size;clear hOA hoA hoB hrA hg hat hbA hb4A;refine hK.out _ _ hb4' (fun _=>?_);clear hK K;simp only [Act.put,List.setIfInBounds_toArray,List.set_cons_zero,List.set_cons_succ];refine tz 10 55 ?_;refine tz 11 56 ?_;obtain ⟨o0,o1,o2,o3,o4,o5⟩:=hO'.six;have of:=hO'.frozen 2;refine Zk 12 (fun K hK=>?_);go_simp;refine hK.out _ _ (hb4'.setCell (by simp) _) (fun _=>?_);clear hK K;refine Zd ?_;obtain ⟨W7,hwW7⟩:∃ W7,W7=w'.setCell ⟨w4.heap.size,2,none⟩ (.slice T2 (j+1) cT2):=⟨_,rfl⟩;rw [←hwW7];have hOW7:Blk W7 w4.heap.size 157 #[.slice Q3 L cq3,.slice F2 (j+1) cF2,.slice T2 (j+1) cT2,.slice G4 L L,.slice none 0 0,.int .i64 0]:=by rw [hwW7];exact hO'.set_ 2 _
            have hoAW7:Own W7 (w4.heap.size+1) 3 1 T2 (j+1) cT2 (Qad ((N.ar.map (·.2.1)).take (j+1))):=by rw [hwW7,HNT.out];exact hown'.far (Qaa _ _ _ _) (.inr (hown'.ne (by omega)))
            have hoBW7:=hoB'.far (Qaa w' w4.heap.size 2 (.slice T2 (j+1) cT2)) (.inr (hoB'.ne (by omega)));rw [←hwW7] at hoBW7;have hbW7:Below w4.heap.size w4 W7:=by rw [hwW7];exact hb4'.setCell (by simp) _
            have hzW7:w4.heap.size+1≤W7.heap.size:=by rw [hwW7];simp [World.setCell];omega
            clear hwW7 hO' hoB' hown' hb4' o0 o1 o2 o3 o4 o5 of hOW6 hoBW6 hoAW6 hbW6
            go_wp2_with fail
            go_roundw
            case rel=>exact ⟨hzW7,hbW7,j+1,F2,cF2,T2,cT2,by omega,by go_num,hOW7,hoBW7,hoAW7,hDJ2.symm⟩
            case measure=>simp [intOf];omega
          · go_simp
            refine hK.out _ _ ((hbW6.alloc (by omega) _).drew) (fun _=>?_);clear hK K;have o1:=fun ob=>(hOW6.alloc ob).six.2.1
            have o2:=fun ob=>(hOW6.alloc ob).six.2.2.1
            refine Zk 4 (fun K hK=>?_);go_simp;refine hK.out _ _ ((hbW6.alloc (by omega) _).drew) (fun _=>?_);clear hK K o1 o2;obtain ⟨WA,hWA⟩:∃ WA,WA=(W6.alloc (.cells #[.int .i64 y] 3)).drew:=⟨_,rfl⟩;rw [←hWA];have hbA:Below W6.heap.size W6 WA:=by rw [hWA];exact Qae
            have hrA:Rds WA 1 (some ⟨W6.heap.size,0,none⟩) 1 (Qad [y]):=by rw [hWA];exact (Blk.new W6 3 (Qcf [y])).rds rfl
            clear hWA;have hoA:=hoBW6.below hbA;have hoB:=hoAW6.below hbA;have hOA:=hOW6.below hbA hOW6.lt;have hb4A:Below w4.heap.size w4 WA:=hbW6.trans (hbA.mono (by omega));have hszA:w4.heap.size+1≤WA.heap.size:=Nat.le_trans hzW6 hbA.size;refine Zk 9 (fun K hK=>?_);with_reducible refine Qai (some 54) rfl rfl (.tmp 49) (.tmp 53) 93 rfl 3 _ 1 8 Qay underlying93 rfl (by omega) rfl rfl hoA hrA (Qak _) (by omega) (by omega) (by omega) ?_
            intro T2 cT2 w' hown' hg hat;have hO':=hOA.grown hg (hoA.ne (by omega));have hoB':=hoB.far hg hDJ.symm.far;have hDJ2:=hDJ.symm.next hoB hat;have hb4':Below w4.heap.size w4 w':=Bel.grownOwn hb4A hg (hoA.mono (by omega)) (by omega);have hz':=hg.size;clear hOA hoA hoB hrA hg hat hbA hb4A;refine hK.out _ _ hb4' (fun _=>?_);clear hK K;simp only [Act.put,List.setIfInBounds_toArray,List.set_cons_zero,List.set_cons_succ];refine tz 10 55 ?_;refine tz 11 56 ?_;obtain ⟨o0,o1,o2,o3,o4,o5⟩:=hO'.six;have of:=hO'.frozen 2;refine Zk 12 (fun K hK=>?_);go_simp;refine hK.out _ _ (hb4'.setCell (by simp) _) (fun _=>?_);clear hK K;refine Zd ?_;obtain ⟨W7,hwW7⟩:∃ W7,W7=w'.setCell ⟨w4.heap.size,2,none⟩ (.slice T2 (j+1) cT2):=⟨_,rfl⟩;rw [←hwW7];have hOW7:Blk W7 w4.heap.size 157 #[.slice Q3 L cq3,.slice F2 (j+1) cF2,.slice T2 (j+1) cT2,.slice G4 L L,.slice none 0 0,.int .i64 0]:=by rw [hwW7];exact hO'.set_ 2 _
            have hoAW7:Own W7 (w4.heap.size+1) 3 1 T2 (j+1) cT2 (Qad ((N.ar.map (·.2.1)).take (j+1))):=by rw [hwW7,HNT.out];exact hown'.far (Qaa _ _ _ _) (.inr (hown'.ne (by omega)))
            have hoBW7:=hoB'.far (Qaa w' w4.heap.size 2 (.slice T2 (j+1) cT2)) (.inr (hoB'.ne (by omega)));rw [←hwW7] at hoBW7;have hbW7:Below w4.heap.size w4 W7:=by rw [hwW7];exact hb4'.setCell (by simp) _
            have hzW7:w4.heap.size+1≤W7.heap.size:=by rw [hwW7];simp [World.setCell];omega
            clear hwW7 hO' hoB' hown' hb4' o0 o1 o2 o3 o4 o5 of hOW6 hoBW6 hoAW6 hbW6
            go_wp2_with fail
            go_roundw
            case rel=>exact ⟨hzW7,hbW7,j+1,F2,cF2,T2,cT2,by omega,by go_num,hOW7,hoBW7,hoAW7,hDJ2.symm⟩
            case measure=>simp [intOf];omega
      · go_simp
        refine hK.out _ _ ((hbwr.alloc (by omega) _).drew) (fun _=>?_);clear hK K;have o1:=fun ob=>(hOwr.alloc ob).six.2.1
        have o2:=fun ob=>(hOwr.alloc ob).six.2.2.1
        refine Zk 4 (fun K hK=>?_);go_simp;refine hK.out _ _ ((hbwr.alloc (by omega) _).drew) (fun _=>?_);clear hK K o1 o2;obtain ⟨WA,hWA⟩:∃ WA,WA=(wr.alloc (.cells #[.int .i64 x] 3)).drew:=⟨_,rfl⟩;rw [←hWA];have hbA:Below wr.heap.size wr WA:=by rw [hWA];exact Qae
        have hrA:Rds WA 1 (some ⟨wr.heap.size,0,none⟩) 1 (Qad [x]):=by rw [hWA];exact (Blk.new wr 3 (Qcf [x])).rds rfl
        clear hWA;have hoA:=hoF.below hbA;have hoB:=hoT.below hbA;have hOA:=hOwr.below hbA hOwr.lt;have hb4A:Below w4.heap.size w4 WA:=hbwr.trans (hbA.mono (by omega));have hszA:w4.heap.size+1≤WA.heap.size:=Nat.le_trans hzwr hbA.size;refine Zk 9 (fun K hK=>?_);with_reducible refine Qai (some 42) rfl rfl (.tmp 37) (.tmp 41) 93 rfl 3 _ 1 8 Qay underlying93 rfl (by omega) rfl rfl hoA hrA (Qak _) (by omega) (by omega) (by omega) ?_
        intro F2 cF2 w' hown' hg hat;have hO':=hOA.grown hg (hoA.ne (by omega));have hoB':=hoB.far hg hdj.far;have hDJ:=hdj.next hoB hat;have hb4':Below w4.heap.size w4 w':=Bel.grownOwn hb4A hg (hoA.mono (by omega)) (by omega);have hz':=hg.size;clear hOA hoA hoB hrA hg hat hbA hb4A;refine hK.out _ _ hb4' (fun _=>?_);clear hK K;simp only [Act.put,List.setIfInBounds_toArray,List.set_cons_zero,List.set_cons_succ];refine tz 10 43 ?_;refine tz 11 44 ?_;obtain ⟨o0,o1,o2,o3,o4,o5⟩:=hO'.six;have of:=hO'.frozen 1;refine Zk 12 (fun K hK=>?_);go_simp;refine hK.out _ _ (hb4'.setCell (by simp) _) (fun _=>?_);clear hK K;refine Zd ?_;obtain ⟨W6,hwW6⟩:∃ W6,W6=w'.setCell ⟨w4.heap.size,1,none⟩ (.slice F2 (j+1) cF2):=⟨_,rfl⟩;rw [←hwW6];have hOW6:Blk W6 w4.heap.size 157 #[.slice Q3 L cq3,.slice F2 (j+1) cF2,.slice T j cT,.slice G4 L L,.slice none 0 0,.int .i64 0]:=by rw [hwW6];exact hO'.set_ 1 _
        have hoAW6:Own W6 (w4.heap.size+1) 3 1 F2 (j+1) cF2 (Qad ((N.ar.map (·.1)).take (j+1))):=by rw [hwW6,HNF.out];exact hown'.far (Qaa _ _ _ _) (.inr (hown'.ne (by omega)))
        have hoBW6:=hoB'.far (Qaa w' w4.heap.size 1 (.slice F2 (j+1) cF2)) (.inr (hoB'.ne (by omega)));rw [←hwW6] at hoBW6;have hbW6:Below w4.heap.size w4 W6:=by rw [hwW6];exact hb4'.setCell (by simp) _
        have hzW6:w4.heap.size+1≤W6.heap.size:=by rw [hwW6];simp [World.setCell];omega
        clear hwW6 hO' hoB' hown' hb4' o0 o1 o2 o3 o4 o5 of hOwr hoF hoT hbwr
        go_wp2_with fail
        refine wp_region_held_drew (S:=fun V=>Below w4.heap.size w4 V) (by kernel_rfl) hbW6.drew (fun _=>?_);refine tz 0 45 ?_;refine tz 1 46 ?_;refine tz 2 47 ?_;refine tz 3 48 ?_;refine tz 5 50 ?_;refine tz 6 51 ?_;refine wpAnyH_ready (rs:=[4,7]) (by kernel_rfl) (by simp) ?_;refine AllReadyH.cons (o:=_) rfl (fun K hK=>?_) (AllReadyH.cons (o:=_) rfl (fun K hK=>?_) AllReadyH.nil)
        · obtain ⟨o0,o1,o2,o3,o4,o5⟩:=hOW6.six
          go_simp;refine hK.out _ _ hbW6.drew (fun _=>?_);clear hK K o0 o1 o2 o3 o4 o5;refine Zk 7 (fun K hK=>?_);go_simp;with_reducible refine (HTO.out _ hbW6.drew).mono ?_
          rintro e w' ⟨rfl,rfl⟩
          go_wp2_with fail
          refine hK.out _ _ hbW6.drew (fun _=>?_);clear hK K;refine Zk 8 (fun K hK=>?_);go_simp;refine hK.out _ _ ((hbW6.alloc (by omega) _).drew) (fun _=>?_);clear hK K;obtain ⟨WA,hWA⟩:∃ WA,WA=(W6.alloc (.cells #[.int .i64 y] 3)).drew:=⟨_,rfl⟩;rw [←hWA];have hbA:Below W6.heap.size W6 WA:=by rw [hWA];exact Qae
          have hrA:Rds WA 1 (some ⟨W6.heap.size,0,none⟩) 1 (Qad [y]):=by rw [hWA];exact (Blk.new W6 3 (Qcf [y])).rds rfl
          clear hWA;have hoA:=hoBW6.below hbA;have hoB:=hoAW6.below hbA;have hOA:=hOW6.below hbA hOW6.lt;have hb4A:Below w4.heap.size w4 WA:=hbW6.trans (hbA.mono (by omega));have hszA:w4.heap.size+1≤WA.heap.size:=Nat.le_trans hzW6 hbA.size;refine Zk 9 (fun K hK=>?_);with_reducible refine Qai (some 54) rfl rfl (.tmp 49) (.tmp 53) 93 rfl 3 _ 1 8 Qay underlying93 rfl (by omega) rfl rfl hoA hrA (Qak _) (by omega) (by omega) (by omega) ?_
          intro T2 cT2 w' hown' hg hat;have hO':=hOA.grown hg (hoA.ne (by omega));have hoB':=hoB.far hg hDJ.symm.far;have hDJ2:=hDJ.symm.next hoB hat;have hb4':Below w4.heap.size w4 w':=Bel.grownOwn hb4A hg (hoA.mono (by omega)) (by omega);have hz':=hg.size;clear hOA hoA hoB hrA hg hat hbA hb4A;refine hK.out _ _ hb4' (fun _=>?_);clear hK K;simp only [Act.put,List.setIfInBounds_toArray,List.set_cons_zero,List.set_cons_succ];refine tz 10 55 ?_;refine tz 11 56 ?_;obtain ⟨o0,o1,o2,o3,o4,o5⟩:=hO'.six;have of:=hO'.frozen 2;refine Zk 12 (fun K hK=>?_);go_simp;refine hK.out _ _ (hb4'.setCell (by simp) _) (fun _=>?_);clear hK K;refine Zd ?_;obtain ⟨W7,hwW7⟩:∃ W7,W7=w'.setCell ⟨w4.heap.size,2,none⟩ (.slice T2 (j+1) cT2):=⟨_,rfl⟩;rw [←hwW7];have hOW7:Blk W7 w4.heap.size 157 #[.slice Q3 L cq3,.slice F2 (j+1) cF2,.slice T2 (j+1) cT2,.slice G4 L L,.slice none 0 0,.int .i64 0]:=by rw [hwW7];exact hO'.set_ 2 _
          have hoAW7:Own W7 (w4.heap.size+1) 3 1 T2 (j+1) cT2 (Qad ((N.ar.map (·.2.1)).take (j+1))):=by rw [hwW7,HNT.out];exact hown'.far (Qaa _ _ _ _) (.inr (hown'.ne (by omega)))
          have hoBW7:=hoB'.far (Qaa w' w4.heap.size 2 (.slice T2 (j+1) cT2)) (.inr (hoB'.ne (by omega)));rw [←hwW7] at hoBW7;have hbW7:Below w4.heap.size w4 W7:=by rw [hwW7];exact hb4'.setCell (by simp) _
          have hzW7:w4.heap.size+1≤W7.heap.size:=by rw [hwW7];simp [World.setCell];omega
          clear hwW7 hO' hoB' hown' hb4' o0 o1 o2 o3 o4 o5 of hOW6 hoBW6 hoAW6 hbW6
          go_wp2_with fail
          go_roundw
          case rel=>exact ⟨hzW7,hbW7,j+1,F2,cF2,T2,cT2,by omega,by go_num,hOW7,hoBW7,hoAW7,hDJ2.symm⟩
          case measure=>simp [intOf];omega
        · go_simp
          with_reducible refine (HTO.out _ hbW6.drew).mono ?_
          rintro e w' ⟨rfl,rfl⟩
          go_wp2_with fail
          refine hK.out _ _ hbW6.drew (fun _=>?_);clear hK K;refine wpAnyH_ready (rs:=[4,8]) (by kernel_rfl) (by simp) ?_;refine AllReadyH.cons (o:=_) rfl (fun K hK=>?_) (AllReadyH.cons (o:=_) rfl (fun K hK=>?_) AllReadyH.nil)
          · obtain ⟨o0,o1,o2,o3,o4,o5⟩:=hOW6.six
            go_simp;refine hK.out _ _ hbW6.drew (fun _=>?_);clear hK K o0 o1 o2 o3 o4 o5;refine Zk 8 (fun K hK=>?_);go_simp;refine hK.out _ _ ((hbW6.alloc (by omega) _).drew) (fun _=>?_);clear hK K;obtain ⟨WA,hWA⟩:∃ WA,WA=(W6.alloc (.cells #[.int .i64 y] 3)).drew:=⟨_,rfl⟩;rw [←hWA];have hbA:Below W6.heap.size W6 WA:=by rw [hWA];exact Qae
            have hrA:Rds WA 1 (some ⟨W6.heap.size,0,none⟩) 1 (Qad [y]):=by rw [hWA];exact (Blk.new W6 3 (Qcf [y])).rds rfl
            clear hWA;have hoA:=hoBW6.below hbA;have hoB:=hoAW6.below hbA;have hOA:=hOW6.below hbA hOW6.lt;have hb4A:Below w4.heap.size w4 WA:=hbW6.trans (hbA.mono (by omega));have hszA:w4.heap.size+1≤WA.heap.size:=Nat.le_trans hzW6 hbA.size;refine Zk 9 (fun K hK=>?_);with_reducible refine Qai (some 54) rfl rfl (.tmp 49) (.tmp 53) 93 rfl 3 _ 1 8 Qay underlying93 rfl (by omega) rfl rfl hoA hrA (Qak _) (by omega) (by omega) (by omega) ?_
            intro T2 cT2 w' hown' hg hat;have hO':=hOA.grown hg (hoA.ne (by omega));have hoB':=hoB.far hg hDJ.symm.far;have hDJ2:=hDJ.symm.next hoB hat;have hb4':Below w4.heap.size w4 w':=Bel.grownOwn hb4A hg (hoA.mono (by omega)) (by omega);have hz':=hg.size;clear hOA hoA hoB hrA hg hat hbA hb4A;refine hK.out _ _ hb4' (fun _=>?_);clear hK K;simp only [Act.put,List.setIfInBounds_toArray,List.set_cons_zero,List.set_cons_succ];refine tz 10 55 ?_;refine tz 11 56 ?_;obtain ⟨o0,o1,o2,o3,o4,o5⟩:=hO'.six;have of:=hO'.frozen 2;refine Zk 12 (fun K hK=>?_);go_simp;refine hK.out _ _ (hb4'.setCell (by simp) _) (fun _=>?_);clear hK K;refine Zd ?_;obtain ⟨W7,hwW7⟩:∃ W7,W7=w'.setCell ⟨w4.heap.size,2,none⟩ (.slice T2 (j+1) cT2):=⟨_,rfl⟩;rw [←hwW7];have hOW7:Blk W7 w4.heap.size 157 #[.slice Q3 L cq3,.slice F2 (j+1) cF2,.slice T2 (j+1) cT2,.slice G4 L L,.slice none 0 0,.int .i64 0]:=by rw [hwW7];exact hO'.set_ 2 _
            have hoAW7:Own W7 (w4.heap.size+1) 3 1 T2 (j+1) cT2 (Qad ((N.ar.map (·.2.1)).take (j+1))):=by rw [hwW7,HNT.out];exact hown'.far (Qaa _ _ _ _) (.inr (hown'.ne (by omega)))
            have hoBW7:=hoB'.far (Qaa w' w4.heap.size 2 (.slice T2 (j+1) cT2)) (.inr (hoB'.ne (by omega)));rw [←hwW7] at hoBW7;have hbW7:Below w4.heap.size w4 W7:=by rw [hwW7];exact hb4'.setCell (by simp) _
            have hzW7:w4.heap.size+1≤W7.heap.size:=by rw [hwW7];simp [World.setCell];omega
            clear hwW7 hO' hoB' hown' hb4' o0 o1 o2 o3 o4 o5 of hOW6 hoBW6 hoAW6 hbW6
            go_wp2_with fail
            go_roundw
            case rel=>exact ⟨hzW7,hbW7,j+1,F2,cF2,T2,cT2,by omega,by go_num,hOW7,hoBW7,hoAW7,hDJ2.symm⟩
            case measure=>simp [intOf];omega
          · go_simp
            refine hK.out _ _ ((hbW6.alloc (by omega) _).drew) (fun _=>?_);clear hK K;have o1:=fun ob=>(hOW6.alloc ob).six.2.1
            have o2:=fun ob=>(hOW6.alloc ob).six.2.2.1
            refine Zk 4 (fun K hK=>?_);go_simp;refine hK.out _ _ ((hbW6.alloc (by omega) _).drew) (fun _=>?_);clear hK K o1 o2;obtain ⟨WA,hWA⟩:∃ WA,WA=(W6.alloc (.cells #[.int .i64 y] 3)).drew:=⟨_,rfl⟩;rw [←hWA];have hbA:Below W6.heap.size W6 WA:=by rw [hWA];exact Qae
            have hrA:Rds WA 1 (some ⟨W6.heap.size,0,none⟩) 1 (Qad [y]):=by rw [hWA];exact (Blk.new W6 3 (Qcf [y])).rds rfl
            clear hWA;have hoA:=hoBW6.below hbA;have hoB:=hoAW6.below hbA;have hOA:=hOW6.below hbA hOW6.lt;have hb4A:Below w4.heap.size w4 WA:=hbW6.trans (hbA.mono (by omega));have hszA:w4.heap.size+1≤WA.heap.size:=Nat.le_trans hzW6 hbA.size;refine Zk 9 (fun K hK=>?_);with_reducible refine Qai (some 54) rfl rfl (.tmp 49) (.tmp 53) 93 rfl 3 _ 1 8 Qay underlying93 rfl (by omega) rfl rfl hoA hrA (Qak _) (by omega) (by omega) (by omega) ?_
            intro T2 cT2 w' hown' hg hat;have hO':=hOA.grown hg (hoA.ne (by omega));have hoB':=hoB.far hg hDJ.symm.far;have hDJ2:=hDJ.symm.next hoB hat;have hb4':Below w4.heap.size w4 w':=Bel.grownOwn hb4A hg (hoA.mono (by omega)) (by omega);have hz':=hg.size;clear hOA hoA hoB hrA hg hat hbA hb4A;refine hK.out _ _ hb4' (fun _=>?_);clear hK K;simp only [Act.put,List.setIfInBounds_toArray,List.set_cons_zero,List.set_cons_succ];refine tz 10 55 ?_;refine tz 11 56 ?_;obtain ⟨o0,o1,o2,o3,o4,o5⟩:=hO'.six;have of:=hO'.frozen 2;refine Zk 12 (fun K hK=>?_);go_simp;refine hK.out _ _ (hb4'.setCell (by simp) _) (fun _=>?_);clear hK K;refine Zd ?_;obtain ⟨W7,hwW7⟩:∃ W7,W7=w'.setCell ⟨w4.heap.size,2,none⟩ (.slice T2 (j+1) cT2):=⟨_,rfl⟩;rw [←hwW7];have hOW7:Blk W7 w4.heap.size 157 #[.slice Q3 L cq3,.slice F2 (j+1) cF2,.slice T2 (j+1) cT2,.slice G4 L L,.slice none 0 0,.int .i64 0]:=by rw [hwW7];exact hO'.set_ 2 _
            have hoAW7:Own W7 (w4.heap.size+1) 3 1 T2 (j+1) cT2 (Qad ((N.ar.map (·.2.1)).take (j+1))):=by rw [hwW7,HNT.out];exact hown'.far (Qaa _ _ _ _) (.inr (hown'.ne (by omega)))
            have hoBW7:=hoB'.far (Qaa w' w4.heap.size 2 (.slice T2 (j+1) cT2)) (.inr (hoB'.ne (by omega)));rw [←hwW7] at hoBW7;have hbW7:Below w4.heap.size w4 W7:=by rw [hwW7];exact hb4'.setCell (by simp) _
            have hzW7:w4.heap.size+1≤W7.heap.size:=by rw [hwW7];simp [World.setCell];omega
            clear hwW7 hO' hoB' hown' hb4' o0 o1 o2 o3 o4 o5 of hOW6 hoBW6 hoAW6 hbW6
            go_wp2_with fail
            go_roundw
            case rel=>exact ⟨hzW7,hbW7,j+1,F2,cF2,T2,cT2,by omega,by go_num,hOW7,hoBW7,hoAW7,hDJ2.symm⟩
            case measure=>simp [intOf];omega
  · obtain rfl:M=j:=by omega
    rw [List.take_of_length_le (by rw [List.length_map,HML.out];exact Zn _)] at hoF hoT;have HOF:=Zh hoF;have HOT:=Zh hoT;obtain ⟨o0,o1,o2,o3,o4,o5⟩:=hOwr.six;obtain ⟨wo,hwo⟩:∃ wo,wo=wr:=⟨_,rfl⟩;subst hwo;have hsA0:Qbo ((gatesOf N.ar ls).take 0)=0:=by simp [Qbo]
    have HS0:=Zh (show Blk wo w4.heap.size 157 #[.slice Q3 L cq3,.slice F M cF,.slice T M cT,.slice G4 L L,.slice none 0 0,.int .i64 ((Qbo ((gatesOf N.ar ls).take 0):Nat):Int)] by rw [hsA0];exact hOwr)
    clear hoF hoT hdj hsA0
    go_wp2_with fail
    clear o0 o1 o2 o3 o4 o5
    go_loopw [63] (fun q W=>wo.heap.size≤W.heap.size∧Below w4.heap.size w4 W∧Qaz (fun b=>b≠w4.heap.size∧b<wo.heap.size) wo W∧∃ (i:Nat) (S:Option Addr) (cS:Nat) (xs:List Value),i≤L∧q=.int .i64 i∧Blk W w4.heap.size 157 #[.slice Q3 L cq3,.slice F M cF,.slice T M cT,.slice G4 L L,.slice S i cS,.int .i64 ((Qbo ((gatesOf N.ar ls).take i):Nat):Int)]∧RwL W wo.heap.size S i cS xs ((Qsl (gatesOf N.ar ls)).take i)) (fun q _=>L-(intOf q).toNat)
    case atStart=>exact ⟨Zn _,hbwr,Qaz.refl _ _,0,none,0,[],Nat.zero_le _,rfl,HS0.out,by simpa using RwL.nil _ _⟩
    case round =>
     clear hbwr hOwr HS0;obtain ⟨hzr,hbr,hkr,i,S,cS,xs,hi,rfl,hO,hRw⟩:=hrel
     by_cases hlt2:i<L
     · obtain ⟨row,gb,go_,Ag,ng,cg,hrow,rfl,hcg,hrc,hng,hcg2⟩:=(HG4.out.le (Qbt _ _)).at_ hlt2
       obtain ⟨l,hl,hrowl⟩:∃ l,ls[i]?=some l∧row=gateRow N.ar l:=by
        unfold gatesOf at hrow;rw [List.getElem?_map] at hrow
        cases e:ls[i]? with
        | none=>rw [e] at hrow;cases hrow
        | some l=>rw [e] at hrow;cases hrow;exact ⟨l,rfl,rfl⟩
       have hlo:=HP.out.lvl l (Zm hl)
       have hnn:ng≤4096:=by
        rw [←hrc.1,hrowl,Qan];have:=Qcd (l:=l) (n:=(n:Int)) (fun x hx=>hlo.hi x hx) (by omega);omega
       have hcg':=Zc hbr (Zn _) hcg;have HSB:=Zh (show ∀ k,Qde (row.take k)≤4096*268435456 from fun k=>by rw [hrowl];exact Qwk (by rw [HML.out];exact HM.out) hlo hn4)
       have HCB:=Zh (show ∀ (c:Nat) (x:Qal),row[c]?=some x→x.1.length≤16384∧x.2.length≤16384 from fun c x hx=>by
        have h0:=HM.out;rw [hrowl] at hx;have:=Qbk hx;rw [HML.out] at this;omega)
       have hsA:=sumA_le (ar:=N.ar) (ls:=ls) (i:=i) (by rw [HML.out];exact HM.out) HP.out hn4;have HSN:=Zh (Qdc hrow);have HSG:=Zh (Qoj hrow);have HRC:=Zh hrc;have HRL:=Zh hrc.1;generalize hss:Qbo ((gatesOf N.ar ls).take i)=sA at *;clear hss;have hmk:=Qdn ng (by omega);have i1:(0:Int)≤(i:Int):=by omega
       have i2:(i:Int)<(L:Int):=by omega
       obtain ⟨wi,hwi⟩:∃ wi,wi=wr:=⟨_,rfl⟩;subst hwi;clear hrow hcg hrc hng hlo hl hrowl
       go_wp2_with fail
       (refine Qah ?_;intro w7 hw7)
       have hb7:Below wi.heap.size wi w7:=by rw [hw7];exact Qae
       have hB7:Blk w7 wi.heap.size 3 (Qcf ((Qgo sA row).take 0 ++List.replicate (ng-0) 0)):=by rw [hw7,List.take_zero,List.nil_append,Nat.sub_zero,←Qdo];exact Blk.new _ _ _
       have hz7:wi.heap.size+1=w7.heap.size:=by rw [hw7];simp
       clear hw7 hmk;have hO7:=hO.below hb7 hO.lt;have hz4i:=hO.lt
       go_loopw [72] (fun q W=>wi.heap.size+1≤W.heap.size∧Below w4.heap.size w4 W∧Qaz (fun b=>b≠w4.heap.size∧b<wi.heap.size) wi W∧∃ k:Nat,k≤ng∧q=.int .i64 k∧Blk W w4.heap.size 157 #[.slice Q3 L cq3,.slice F M cF,.slice T M cT,.slice (some ⟨gb,go_,none⟩) L L,.slice S i cS,.int .i64 ((sA+Qde (row.take k):Nat):Int)]∧Blk W wi.heap.size 3 (Qcf ((Qgo sA row).take k ++List.replicate (ng-k) 0))) (fun q _=>ng-(intOf q).toNat)
       case atStart=>exact ⟨by omega,hbr.trans (hb7.mono (by omega)),Qaz.below hb7,0,Nat.zero_le _,rfl,by simpa [Qde] using hO7,hB7⟩
       case round =>
        clear hB7 hO7 hz7 hb7;obtain ⟨hzk,hbk,hkk,k,hk,rfl,hOk,hBk⟩:=hrel
        by_cases hlt3:k<ng
        · obtain ⟨x,gb',go',A1,n1,c1,A2,n2,c2,hx,eg,cc1,hr1,cc2,hr2,_⟩:=HRC.out.at_ hlt3
          subst eg;have hb1:=HCB.out k x hx;have hn1:n1≤16384:=by rw [←hr1.1];exact hb1.1
          have hn2:n2≤16384:=by rw [←hr2.1];exact hb1.2
          have HSZ:=Zh (show Qde (row.take (k+1))=Qde (row.take k)+n1*n2 by
           rw [Qcy hx];unfold szG;rw [hr1.1,hr2.1])
          have hP:n1*n2≤268435456:=Nat.le_trans (Nat.mul_le_mul hn1 hn2) (by omega);have hsk:=HSB.out k;have cc1':=Zc hbk (Zn _) cc1;have cc2':=Zc hbk (Zn _) cc2;have HSTN:=Zh (Qtf (s:=sA) (row:=row) (j:=k) (by rw [HRL.out];exact hlt3));rw [HRL.out] at HSTN;obtain ⟨v0,hv0⟩:∃ v,((Qgo sA row).take k ++List.replicate (ng-k) (0:Int))[k]?=some v:=⟨_,Zg (by rw [List.length_append,List.length_take,Qek,HRL.out,List.length_replicate];omega)⟩;have cb:=hBk.cellI hv0;have cbf:=hBk.frozen k;have e1:(n1:Int)*(n2:Int)=((n1*n2:Nat):Int):=by simp
          generalize hPP:n1*n2=P at *;generalize hKK:Qde (row.take k)=K at *;clear hPP hKK;have HSTN2:=HSTN;clear HSTN;obtain ⟨Z,hZ⟩:∃ Z,Z=sA+K:=⟨_,rfl⟩;rw [←hZ] at HSTN2 hOk;have hZb:Z≤7*(4096*268435456):=by omega
          have HZ:=Zh hZ;clear hZ;have e2:IntKind.i64.wrap (P:Int)=(P:Int):=IntWalk.i64_in _ (by omega);have e3:IntKind.i64.wrap ((Z:Int)+(P:Int))=(Z:Int)+(P:Int):=IntWalk.i64_in _ (by omega);have HB2:=Zh (hBk.setI HSTN2.out);have j1:(0:Int)≤(k:Int):=by omega
          have j2:(k:Int)<(ng:Int):=by omega
          obtain ⟨W8,hW8⟩:∃ W8,W8=(wr.setCell ⟨wi.heap.size,k,none⟩ (.int .i64 (Z:Int))).alloc (.cells #[.slice A1 n1 c1,.slice A2 n2 c2] 105):=⟨_,rfl⟩;have hX8:Blk W8 wr.heap.size 105 #[.slice A1 n1 c1,.slice A2 n2 c2]:=by rw [hW8];exact Blk.new' _ _ _ (by simp [World.setCell])
          have hO8:Blk W8 w4.heap.size 157 #[.slice Q3 L cq3,.slice F M cF,.slice T M cT,.slice (some ⟨gb,go_,none⟩) L L,.slice S i cS,.int .i64 (Z:Int)]:=by rw [hW8];exact (hOk.far_ (by omega) _).alloc _
          have hB8:Blk W8 wi.heap.size 3 (Qcf ((Qgo sA row).take (k+1) ++List.replicate (ng-(k+1)) 0)):=by rw [hW8];exact HB2.out.alloc _
          have hb8:Below w4.heap.size w4 W8:=by rw [hW8];exact (hbk.setCell (by simp only;omega) _).alloc (by simp [World.setCell];omega) _
          have hk8:Qaz (fun b=>b≠w4.heap.size∧b<wi.heap.size) wi W8:=by
           have hset:Qaz (fun b=>b≠w4.heap.size∧b<wi.heap.size) wr (wr.setCell ⟨wi.heap.size,k,none⟩ (.int .i64 (Z:Int))):=Qaz.set _ _ _ _ (fun hG=>by omega);have hall:Qaz (fun b=>b≠w4.heap.size∧b<wi.heap.size) (wr.setCell ⟨wi.heap.size,k,none⟩ (.int .i64 (Z:Int))) W8:=by rw [hW8];exact Qaz.below ((Zr _ _).alloc (Zn _) _)
           exact (hkk.trans hset (by omega)).trans hall (by simp [World.setCell];omega)
          have hz8:wi.heap.size+1≤W8.heap.size:=by rw [hW8];simp [World.setCell];omega
          have HW8:=Zh hW8;have HX8:=Zh hX8;have o5a:=hOk.six.2.2.2.2.2;have zb:=hBk.lt;have zo:=hOk.lt;clear hx hr1 hr2 cc1 cc2 hW8 hOk hBk hv0 hbk hkk HB2 hX8
          go_wp2_with fail
          rw [←HW8.out];clear o5a zb zo;have hX8:=HX8.out;have hlt8:=hX8.lt;have HSX:=Zh (show ∀ V,Blk V wr.heap.size 105 #[.slice A1 n1 c1,.slice A2 n2 c2]→V.cell? ⟨wr.heap.size,0,none⟩=some (.slice A1 n1 c1)∧V.cell? ⟨wr.heap.size,1,none⟩=some (.slice A2 n2 c2) from fun V hV=>⟨hV.two.1,hV.two.2.1⟩)
          refine wp_region_held_drew (S:=fun V=>Blk V wr.heap.size 105 #[.slice A1 n1 c1,.slice A2 n2 c2]) (by kernel_rfl) hX8.drew (fun _=>?_);refine tz 0 84 ?_;refine tz 1 85 ?_;refine tz 2 86 ?_;refine tz 4 88 ?_;refine tz 5 89 ?_;refine tz 6 90 ?_;refine tz 7 91 ?_;refine tz 8 92 ?_;refine tz 9 93 ?_;refine tz 10 94 ?_;obtain ⟨o0,o1,o2,o3,o4,o5⟩:=hO8.six;refine Zk 3 (fun K hK=>?_);go_simp;refine hK.out _ _ hX8.drew (fun _=>?_);clear hK;refine tz 11 95 ?_;refine tz 12 96 ?_;refine tz 13 97 ?_;have of:=hO8.frozen 5;refine Zk 14 (fun K hK=>?_);go_simp;refine hK.out _ _ (hX8.far_ (by omega) _) (fun _=>?_);clear hK;refine Zd ?_;have HO9:=Zh (show Blk ((W8.setCell ⟨w4.heap.size,5,none⟩ (.int .i64 ((Z:Int)+(P:Int)))).drew) w4.heap.size 157 #[.slice Q3 L cq3,.slice F M cF,.slice T M cT,.slice (some ⟨gb,go_,none⟩) L L,.slice S i cS,.int .i64 ((Z:Int)+(P:Int))] from hO8.set_ 5 _)
          have HB9:=Zh (hB8.far_ (b:=w4.heap.size) (o:=5) (by omega) (.int .i64 ((Z:Int)+(P:Int))));have HE9:=Zh (show (((sA+Qde (row.take (k+1)):Nat)):Int)=(Z:Int)+(P:Int) by have:=HSZ.out;have:=HZ.out;omega)
          have HK9:=Zh (hk8.trans (Qaz.set W8 w4.heap.size 5 (.int .i64 ((Z:Int)+(P:Int))) (fun hG=>hG.1 rfl)) (by omega));have HL9:=Zh (hb8.setCell (p:=⟨w4.heap.size,5,none⟩) (by simp) (.int .i64 ((Z:Int)+(P:Int))));clear hO8 hB8 hk8 hb8 o0 o1 o2 o3 o4 o5 of hX8
          go_wp2_with fail
          go_roundw
          case rel=>exact ⟨by simp [World.setCell];omega,HL9.out.drew,HK9.out,k+1,by omega,by go_num,by rw [HE9.out];exact HO9.out,HB9.out⟩
          case measure=>simp [intOf];omega
        · obtain rfl:ng=k:=by omega
          rw [Nat.sub_self,List.replicate_zero,List.append_nil,List.take_of_length_le (by rw [Qek,HRL.out];exact Zn _)] at hBk;rw [List.take_of_length_le (by rw [HRL.out];exact Zn _)] at hOk;have hRk:=hRw.keep (by omega) (fun b h1 h2=>hkk b ⟨by omega,h2⟩ h2);have hSl:∀ b,Qab S=some b→b<wi.heap.size:=fun b hb=>(hRw.1.lt b hb).2
          obtain ⟨W1,hW1⟩:∃ W1,W1=wr.alloc (.cells #[.slice (some ⟨wi.heap.size,0,none⟩) ng ng] 93):=⟨_,rfl⟩;have hbA:Below wr.heap.size wr W1:=by rw [hW1];exact Qae
          have hRA:=hRk.below hbA;have hOA:=hOk.below hbA hOk.lt;have hrA:Rds W1 1 (some ⟨wr.heap.size,0,none⟩) 1 [.slice (some ⟨wi.heap.size,0,none⟩) ng ng]:=by rw [hW1];exact (Blk.new wr 93 #[.slice (some ⟨wi.heap.size,0,none⟩) ng ng]).rds rfl
          have hrI:RdI W1 (some ⟨wi.heap.size,0,none⟩) ng (Qgo sA row):=(hBk.below hbA hBk.lt).rdI (by rw [Qek];exact HRL.out);have hLt:=hBk.lt;have hbA4:Below w4.heap.size w4 W1:=hbk.trans (hbA.mono (by omega));have hszA:wo.heap.size≤W1.heap.size:=by have:=hbA.size;omega
          have hzA:=hbA.size;have hKA:Qaz (fun b=>b≠w4.heap.size∧b<wo.heap.size) wo W1:=(hkr.trans (hkk.mono (fun b hb=>⟨hb.1,by omega⟩)) (by omega)).trans ((Qaz.below hbA).mono (fun b hb=>hb)) (by omega);have hoS:=hRA.1;obtain ⟨o0,o1,o2,o3,o4,o5⟩:=hOk.six;have zo:=hOk.lt;have HSNN:=Zh (show ((Qbo ((gatesOf N.ar ls).take (i+1)):Nat):Int)=((sA+Qde row:Nat):Int) by rw [HSN.out])
          have HW1:=Zh hW1;clear hBk hRk hW1 hRw hO hkk hkr hbk hbr
          go_wp2_with (at_builtin;rw [←HW1.out];with_reducible refine Qat rfl (.tmp 103) (.tmp 105) 27 rfl 93 _ 1 24 Qhj underlying27 rfl (by omega) rfl rfl hoS hrA (Qcr _ _ _) (by omega) (by omega) (by omega) ?_)
          intro A' c' w' hown' hg hat;have hO':=hOA.grown hg (hoS.ne (by omega));have hb4':Below w4.heap.size w4 w':=Bel.grownOwn hbA4 hg (hoS.mono (by omega)) (by omega);have hz':=hg.size
          have HR':=Zh ((hRA.push hown' hg hat hrI (fun q hq=>by
           have e:=Qfy hq;subst e;exact ⟨by omega,by omega,fun e=>by have:=hSl _ e;omega⟩) (Zn _) (by omega)).far (Qaa w' w4.heap.size 4 (.slice A' (i+1) c')) (by omega))
          have HK':=Zh ((hKA.trans (Qaz.grown hg (fun b hb e=>by have:=(hoS.lt b e).1;omega)) (by omega)).trans (Qaz.set w' w4.heap.size 4 (.slice A' (i+1) c') (fun hG=>hG.1 rfl)) (by omega));have HO':=Zh (show Blk (w'.setCell ⟨w4.heap.size,4,none⟩ (.slice A' (i+1) c')) w4.heap.size 157 #[.slice Q3 L cq3,.slice F M cF,.slice T M cT,.slice (some ⟨gb,go_,none⟩) L L,.slice A' (i+1) c',.int .i64 ((Qbo ((gatesOf N.ar ls).take (i+1)):Nat):Int)] from by rw [HSNN.out];exact hO'.set_ 4 _)
          have HL':=Zh (hb4'.setCell (p:=⟨w4.heap.size,4,none⟩) (by simp) (.slice A' (i+1) c'));obtain ⟨_,_,_,_,o4',_⟩:=hO'.six;have of':=hO'.frozen 4;clear hRA hOA hrA hrI hbA4 hKA hoS o0 o1 o2 o3 o4 o5 hown' hg hat hO' hb4' hbA
          go_wp2_with fail
          go_roundw
          case rel=>exact ⟨by simp [World.setCell];omega,HL'.out,HK'.out,i+1,A',c',_,by omega,by go_num,HO'.out,by rw [List.take_succ_eq_append_getElem (Zs HSG.out).1,(Zs HSG.out).2];exact HR'.out⟩
          case measure=>simp [intOf];omega
     · obtain rfl:L=i:=by omega
       have hgl:(gatesOf N.ar ls).length=L:=by simp [gatesOf];exact HT.out.1
       rw [List.take_of_length_le (by rw [Qtz,hgl];exact Zn _)] at hRw;rw [List.take_of_length_le (by rw [hgl];exact Zn _)] at hO;have hz4:=hbw4.size;have hzo:=hO.lt
       have HOV:=Zh (show Qex (msk wr (fun b=>w.heap.size≤b∧b<wr.heap.size)) w4.heap.size N.ar ls from by
        have hk4:Le (msk w4 (fun b=>w.heap.size≤b∧b<w4.heap.size)) (msk wr (fun b=>w.heap.size≤b∧b<wr.heap.size)) :=
         Le.trans (Qaz.msk (W':=wr) (fun b hb _=>hbr.block b hb.2)) (Qbn (fun b hb=>⟨hb.1,by omega⟩))
        have own:∀ (A:Option Addr) (c:Nat) (l:List Int),Own wo (w4.heap.size+1) 3 1 A M c (Qad l)→RdI (msk wr (fun b=>w.heap.size≤b∧b<wr.heap.size)) A M l:=fun A c l ho =>
         (ho.rds.rdI.keepB (fun b hb=>hkr b ⟨by have:=(ho.lt b hb).1;omega,(ho.lt b hb).2⟩ (ho.lt b hb).2)).msk (fun b hb=>⟨by have:=(ho.lt b hb).1;omega,by have:=(ho.lt b hb).2;omega⟩)
        obtain ⟨o0,o1,o2,o3,o4,o5⟩:=hO.six;have hc:∀ {k:Nat} {v:Value},wr.cell? ⟨w4.heap.size,k,none⟩=some v→(msk wr (fun b=>w.heap.size≤b∧b<wr.heap.size)).cell? ⟨w4.heap.size,k,none⟩=some v:=fun h=>Qar.2 ⟨⟨by omega,by omega⟩,h⟩
        exact ⟨_,_,_,_,_,_,_,_,_,_,_,_,hc o0,hc o1,hc o2,hc o3,hc o4,hc o5,HQ4.out.le hk4,own _ _ _ HOF.out,own _ _ _ HOT.out,HG4.out.le hk4,hRw.rdM (fun b h1 h2=>⟨by omega,h2⟩),HCQ.out⟩)
       have HBF:=Zh (hbw4.trans (hbr.mono (by omega)));clear hO hRw hbr hkr
       go_wp2_with fail
       go_ret2
       exact ⟨_,rfl,HOV.out,HBF.out⟩
end Go.Proofs.YthoagdpakddbdaaGreatDoor
