/- Parts of the proof: AsV, AsK, Pd, RoG. -/
import Derived.Test.YteaoiabikjnkeaaGreatDoorC1
import Derived.Test.YteaoiabikjnkeaaGreatDoorC4
import Derived.Test.YteaoiabikjnkeaaGreatDoorC8
import Derived.Test.YteaoiabikjnkeaaGreatDoorC9
import Derived.Test.YteaoiabikjnkeaaGreatDoorC14
import Derived.Test.YteaoiabikjnkeaaGreatDoorC17
namespace Go.Proofs.YteaoiabikjnkeaaGreatDoor
open Go.RowKit Tryz
def LeapQ (N:Qaq) (ls:List (List Int)) (lv:Int) (a b:Nat):Prop:=∃ (j:Nat) (l:List Int) (y z:Tri),lv=(j:Int)+1∧ls[j]?=some l∧N.ar[a]?=some y∧N.ar[b]?=some z∧Qab l y.1≠Qab l y.2.1∧Qab l z.1=Qab l y.2.1∧Qab l z.2.1≠Qab l y.2.1
def Qnx (N:Qaq) (ls:List (List Int)) (lv f t v:Int):Prop :=
 (∃ (a b:Nat) (y z:Tri),f=(a:Int)∧t=(b:Int)∧N.ar[a]?=some y∧N.ar[b]?=some z∧lv=0∧v=Qfl (Qba N a b) z.2.2) ∨
 (∃ (a b j:Nat) (l:List Int) (y z:Tri) (e:Int),f=(a:Int)∧t=(b:Int)∧lv=(j:Int)+1∧ls[j]?=some l∧N.ar[a]?=some y∧N.ar[b]?=some z∧Qab l y.1≠Qab l y.2.1∧Qab l z.1=Qab l y.2.1∧Qab l z.2.1≠Qab l y.2.1∧Qgf N (Qeb l (Qab l y.2.1)) a b e∧v=Qfl e z.2.2) ∨
 (v=1152921504606846976∧∀ (a b:Nat),f=(a:Int)→t=(b:Int)→a<N.ar.length→b<N.ar.length→lv≠0∧¬LeapQ N ls lv a b)
theorem Qnx.uniq {N:Qaq} {ls:List (List Int)} {lv f t v w:Int} (h:Qnx N ls lv f t v) (g:Qnx N ls lv f t w):v=w:=by
 rcases h with ⟨a,b,y,z,rfl,rfl,hy,hz,rfl,rfl⟩|⟨a,b,j,l,y,z,e,rfl,rfl,rfl,hl,hy,hz,h1,h2,h3,h4,rfl⟩|⟨rfl,hn⟩
 · rcases g with ⟨a',b',y',z',e1,e2,hy',hz',_,rfl⟩|⟨a',b',j',l',y',z',e',e1,e2,e3,_⟩|⟨rfl,gn⟩
   · obtain rfl:=Int.ofNat.inj e1
     obtain rfl:=Int.ofNat.inj e2;rw [hz] at hz'
     cases hz'
     rfl
   · omega
   · exact absurd rfl (gn a b rfl rfl (Zs hy).1 (Zs hz).1).1
 · rcases g with ⟨a',b',y',z',e1,e2,hy',hz',e3,rfl⟩|⟨a',b',j',l',y',z',e',e1,e2,e3,hl',hy',hz',g1,g2,g3,g4,rfl⟩|⟨rfl,gn⟩
   · omega
   · obtain rfl:=Int.ofNat.inj e1
     obtain rfl:=Int.ofNat.inj e2;obtain rfl:j=j':=by omega
     rw [hl] at hl'
     cases hl'
     rw [hy] at hy'
     cases hy'
     rw [hz] at hz'
     cases hz'
     rw [Lst.uniq h4 g4]
   · exact absurd ⟨j,l,y,z,rfl,hl,hy,hz,h1,h2,h3⟩ (gn a b rfl rfl (Zs hy).1 (Zs hz).1).2
 · rcases g with ⟨a',b',y',z',rfl,rfl,hy',hz',rfl,rfl⟩|⟨a',b',j',l',y',z',e',rfl,rfl,rfl,hl',hy',hz',g1,g2,g3,g4,rfl⟩|⟨rfl,gn⟩
   · exact absurd rfl (hn a' b' rfl rfl (Zs hy').1 (Zs hz').1).1
   · exact absurd ⟨j',l',y',z',rfl,hl',hy',hz',g1,g2,g3⟩ (hn a' b' rfl rfl (Zs hy').1 (Zs hz').1).2
   · rfl
def Qao:Qaq:=⟨[(0,0,1),(1,0,0),(2,0,0),(3,0,0),(4,0,0),(5,0,2)],[(0,1,10),(1,2,10),(2,3,10),(3,4,10),(4,5,10)],[⟨1,1,[1]⟩,⟨0,1,[]⟩,⟨1,0,[]⟩]⟩
def Qbd:List (List Int):=[[0,0,1,1,2,2]]
theorem Qcx:Qaw Qao:=by
 refine ⟨by decide,by decide,by decide,?_,?_,?_,?_⟩
 · intro t ht
   simp only [Qao,List.mem_cons,List.not_mem_nil,or_false] at ht
   rcases ht with rfl|rfl|rfl <;> exact ⟨by decide,by decide,by decide,by decide,by decide,by decide⟩
 · intro t ht
   simp only [Qao,List.mem_cons,List.not_mem_nil,or_false] at ht
   rcases ht with rfl|rfl|rfl|rfl|rfl|rfl <;> exact ⟨by decide,by decide,by decide,by decide⟩
 · intro t ht
   simp only [Qao,List.mem_cons,List.not_mem_nil,or_false] at ht
   rcases ht with rfl|rfl|rfl|rfl|rfl <;> exact ⟨by decide,by decide,by decide,by decide,by decide⟩
 · intro i v t hv ht
   have hi:i<6:=(Zs hv).1
   rcases (by omega:i=0∨i=1∨i=2∨i=3∨i=4∨i=5) with rfl|rfl|rfl|rfl|rfl|rfl
   all_goals
    simp only [Qao,List.getElem?_cons_zero,List.getElem?_cons_succ,Option.some.injEq] at hv;subst hv
    revert ht
    simp only [Qao,show (1:Int).toNat=1 from rfl,show (2:Int).toNat=2 from rfl,show (0:Int).toNat=0 from rfl,List.getElem?_cons_zero,List.getElem?_cons_succ,Option.some.injEq]
    rintro rfl;exact ⟨by decide,by decide⟩
theorem Qch:Qay Qao.vs.length Qbd:=by
 refine ⟨by decide,by decide,?_,?_⟩
 · intro l hl
   simp only [Qbd,List.mem_cons,List.not_mem_nil,or_false] at hl;subst hl;refine ⟨by decide,by decide,by decide,?_⟩;intro c hc;have hm:Qas [0,0,1,1,2,2]=3:=by decide
   rw [hm] at hc
   rcases (by omega:c=0∨c=1∨c=2) with rfl|rfl|rfl <;> decide
 · intro i p l hp hl
   have hi:i+1<1:=(Zs hl).1
   omega
theorem Qwp {a:Nat}{y:Tri} (h:Qao.ar[a]?=some y):a≤4∧y=((a:Int),(a:Int)+1,10):=by
 match a,h with
 | 0,h=>cases h;exact ⟨by omega,rfl⟩
 | 1,h=>cases h;exact ⟨by omega,rfl⟩
 | 2,h=>cases h;exact ⟨by omega,rfl⟩
 | 3,h=>cases h;exact ⟨by omega,rfl⟩
 | 4,h=>cases h;exact ⟨by omega,rfl⟩
 | k+5,h=>simp [Qao] at h
theorem ch_t (a:Nat)(h:a≤3):Qba Qao a (a+1)=1:=by
 rcases (by omega:a=0∨a=1∨a=2∨a=3) with rfl|rfl|rfl|rfl <;> decide
theorem ch_turn {a b:Nat}(h:Qba Qao a b≠1152921504606846976):a≤3∧b=a+1:=by
 obtain ⟨x,y,hx,hy,e⟩:=Qco h;obtain ⟨h1,rfl⟩:=Qwp hx;obtain ⟨h2,rfl⟩:=Qwp hy;simp only at e;exact ⟨by omega,by omega⟩
theorem Qly {a b:Nat}{d:Int}:StW Qao a b d↔a≤3∧b=a+1∧d=11:=by
 constructor
 · rintro ⟨y,hy,h1,_,rfl⟩
   obtain ⟨h3,rfl⟩:=ch_turn h1;obtain ⟨_,rfl⟩:=Qwp hy;refine ⟨h3,rfl,?_⟩;rw [ch_t a h3];exact (by decide:(1:Int)+10=11)
 · rintro ⟨h1,rfl,rfl⟩
   refine ⟨((a:Int)+1,(a:Int)+1+1,10),?_,?_,(by decide:(10:Int)≠1152921504606846976),by rw [ch_t a h1];exact (by decide:(11:Int)=1+10)⟩
   · rcases (by omega:a=0∨a=1∨a=2∨a=3) with rfl|rfl|rfl|rfl <;> rfl
   · rw [ch_t a h1]
     decide
theorem ch_rch {s p:Nat}{c:Int} (h:Rch (StW Qao) s p c):s≤p∧c=11*((p:Int)-(s:Int))∧(p=s∨p≤4):=by
 induction h with
 | start=>exact ⟨Zn _,by omega,.inl rfl⟩
 | step _ h2 ih =>
  obtain ⟨h3,rfl,rfl⟩:=Qly.1 h2;exact ⟨by omega,by omega,.inr (by omega)⟩
theorem ch_to (p:Nat)(h:p≤4):Rch (StW Qao) 0 p (11*(p:Int)):=by
 induction p with
 | zero=>exact .start
 | succ p ih =>
  have:=(ih (by omega)).step (Qly.2 ⟨by omega,rfl,rfl⟩);rw [show 11*((p+1:Nat):Int)=11*(p:Int)+11 by omega]
  exact this
theorem Qvq:Lst (Rch (StW Qao) 0 4) 44:=.inl ⟨ch_to 4 (by omega),fun c hc=>by have:=ch_rch hc;omega⟩
theorem ch_none:Lst (Rch (StW Qao) 4 0) 1152921504606846976:=.inr ⟨rfl,fun c hc=>by have:=ch_rch hc;omega⟩
theorem ch_gr:Qaf Qao.ar [0,0,1,1,2,2]=[([],[1]),([1],[3]),([3],[])]:=by decide
theorem Qrh:Qae Qao.ar Qbd=[[([],[1]),([1],[3]),([3],[])]]:=by unfold Qae Qbd;rw [List.map_cons,ch_gr];rfl
theorem Qlo:Qbv (Qae Qao.ar Qbd)=1:=by rw [Qrh];decide
theorem Qvb:Qgf Qao (Qeb [0,0,1,1,2,2] 1) 1 3 12:=by
 have hst:∀ {a b d},StA Qao (Qeb [0,0,1,1,2,2] 1) a b d→a=1∧b=2∧d=11:=fun {a b d} h=>by
  obtain ⟨h1,rfl,rfl⟩:=Qly.1 h.all;obtain ⟨y,hy,_,_,h3,h4,_⟩:=h
  rcases (by omega:a=0∨a=1∨a=2∨a=3) with rfl|rfl|rfl|rfl
  · cases hy;exact absurd h3 (by decide)
  · exact ⟨rfl,rfl,rfl⟩
  · cases hy;exact absurd h4 (by decide)
  · cases hy;exact absurd h3 (by decide)
 have hr:∀ p c,Rch (StA Qao (Qeb [0,0,1,1,2,2] 1)) 1 p c→p=1∧c=0∨p=2∧c=11:=by
  intro p c h
  induction h with
  | start=>exact .inl ⟨rfl,rfl⟩
  | step _ h2 ih =>
   obtain ⟨rfl,rfl,rfl⟩:=hst h2
   rcases ih with ⟨_,rfl⟩|⟨h,_⟩
   · exact .inr ⟨rfl,by decide⟩
   · exact absurd h (by decide)
 refine .inl ⟨⟨2,11,1,?_,⟨by decide,by decide⟩,rfl⟩,fun v hv=>?_⟩
 · exact Rch.start.step (show StA Qao (Qeb [0,0,1,1,2,2] 1) 1 2 11 from ⟨(2,3,10),rfl,by decide,by decide,by decide,by decide,by decide⟩)
 · obtain ⟨p,c,d,h1,⟨h2,rfl⟩,rfl⟩:=hv
   rcases hr p c h1 with ⟨rfl,rfl⟩|⟨rfl,rfl⟩
   · exact absurd (by decide) h2
   · rw [ch_t 2 (by omega)];decide
theorem Qjv:Qdh Qao Qbd [12]:=by
 refine ⟨by rw [Qlo];rfl,fun k v hk=>?_⟩
 match k,hk with
 | 0,hk =>
  cases hk
  exact ⟨0,[0,0,1,1,2,2],1,([1],[3]),0,0,1,3,⟨rfl,by rw [ch_gr];rfl,rfl,rfl,by rw [Qrh,ch_gr];decide⟩,Qvb⟩
 | k+1,hk=>simp at hk
theorem ch_lv1:Qfi Qbd 2 [0,5]=1:=by
 have h:=Qhe (ls:=Qbd) (v:=2) (av:=[0,5]) (j:=0) ⟨_,rfl,by decide⟩;have:=Qia (ls:=Qbd) (v:=2) (av:=[0,5]) 1;unfold Qfi at h ⊢;exact Nat.le_antisymm this h
theorem ch_lv0:Qfi Qbd 2 [3,5]=0:=by
 cases h:Qfi Qbd 2 [3,5] with
 | zero=>rfl
 | succ j =>
  have hj:=Qia (ls:=Qbd) (v:=2) (av:=[3,5]) 1;have h2:Qii Qbd 2 [3,5] 1=j+1:=h;obtain rfl:j=0:=by omega
  obtain ⟨l,hl,h1⟩:=Qdf h
  cases hl
  exact absurd (by decide) (h1 3 (by decide))
attribute [local go_sem ↓] Go.wp_at_zero Go.wp_at_succ
set_option maxHeartbeats 400000 in
theorem Qsn (A:Option Addr)(n c:Nat)(l:List Int)(w:World)(h:RdI w A n l)(hn:n≤1000000)(hb:∀ x∈l,0≤x∧x≤1000000) :
 Calls prog 171 #[.slice A n c] w fun e w'=>e=.returned (.int .i64 (Qas l))∧w=w':=by
 have HR:=Zh h;have HL:=Zh h.1;have HB:=Zh hb;clear h hb
 go_enter func171,ntmps171
 go_wp2_with fail
 go_loop [3,4] (fun m q=>∃ k:Nat,k≤n∧q=.int .i64 k∧m=.int .i64 (Qas (l.take k))) (fun _ q=>n-(intOf q).toNat)
 case atStart=>exact ⟨0,Nat.zero_le _,rfl,rfl⟩
 case round =>
  obtain ⟨k,hk,rfl,rfl⟩:=hrel
  by_cases hlt:k<n
  · obtain ⟨b,o,x,rfl,hx,hc⟩:=HR.out.at_ hlt
    have hxb:=HB.out x (Zm hx);have HNX:=Zh (Qfx hx);have i1:(0:Int)≤(k:Int):=by omega
    have i2:(k:Int)<(n:Int):=by omega
    clear hx;generalize Qas (l.take k)=m at *;have HM:=Zh (show (if m<x+1 then x+1 else m)=max m (x+1) by split <;> omega)
    go_wp2_with fail
    go_round
    case rel=>exact ⟨k+1,by omega,by go_num,by rw [HNX.out,←HM.out]⟩
    case measure=>simp [intOf];omega
  · obtain rfl:n=k:=by omega
    have HE:=Zh (show Qas (l.take n)=Qas l by rw [List.take_of_length_le (by rw [HL.out];exact Zn _)])
    go_wp2
    go_ret
    exact ⟨Qbz HE.out,rfl⟩
def Qfk (ls:List (List Int)) (i:Nat):Option (List Int):=if i=0 then none else ls[i-1]?
theorem Qqy (ls:List (List Int)):Qfk ls 0=none:=rfl
theorem Qgp (ls:List (List Int)) (j:Nat):Qfk ls (j+1)=ls[j]?:=rfl
theorem Qpy {n:Nat} {p:Option (List Int)} {l:List Int} (h:l.length≠n):Qel n p l=1:=by unfold Qel;rw [if_pos h]
theorem Qic {n:Nat} {p:Option (List Int)} {l:List Int} (h:l.length=n) (hn:¬(Qer n l∧∀ q,p=some q→Qdo q l)):Qel n p l=10:=by
 unfold Qel;rw [if_neg (fun e=>e h),if_neg hn]
theorem Qlh {n:Nat} {p:Option (List Int)} {l:List Int} (h:Qer n l) (hn:∀ q,p=some q→Qdo q l):Qel n p l=0:=by
 unfold Qel;rw [if_neg (fun e=>e h.len),if_pos ⟨h,hn⟩]
set_option maxHeartbeats 2000000 in
set_option maxRecDepth 20000 in
theorem Qkl (Q:Option Addr)(n L cq i:Nat) (ls:List (List Int)) (l:List Int) (w:World) (h:RdT w Q L ls) (hl:ls[i]?=some l) (hn:n≤4096) (hL:L≤1000000) (hprev:∀ j p,i=j+1→ls[j]?=some p→p.length=n) :
 Calls prog 162 #[.int .i64 n,.agg #[.slice Q L cq],.int .i64 ((i:Int)+1),.slice none 0 0] w fun e w'=>e=.returned (.int .i64 (Qel n (Qfk ls i) l))∧Below w.heap.size w w':=by
 have hi:i<L:=by rw [←h.1];exact (Zs hl).1
 have HT:=Zh h;obtain ⟨b,o,A,m,c,l',rfl,hl',hc,hr,q1,q2⟩:=h.at_ hi;rw [hl] at hl'
 cases hl'
 have HR:=Zh hr;have HLEN:=Zh hr.1;have HLL:=Zh hl;have HPV:=Zh hprev;have hca:=fun ob=>Zc (show Below w.heap.size w (w.alloc ob) from Qah) (Zn _) hc
 have i1:(0:Int)≤(i:Int):=by omega
 have i2:(i:Int)<(L:Int):=by omega
 have i5:(i:Int)+1-1=(i:Int):=by omega
 have hmk:=Qcv n (by omega);clear h hr hl hprev q1
 by_cases hmn:m=n
 rotate_left
 · have e1:((m:Int) != (n:Int))=true:=by simp;omega
   have e2:((m:Int) == (n:Int))=false:=by simp;omega
   have HC:=Zh (Qpy (n:=n) (p:=Qfk ls i) (l:=l) (by rw [HLEN.out];exact hmn))
   go_enter func162,ntmps162
   go_wp2_with fail
   go_ret
   exact ⟨Qbz HC.out.symm,Qah⟩
 subst hmn
 go_enter func162,ntmps162
 go_wp2_with fail
 (refine Qaj ?_;intro w1 hw1)
 have hb1:Below w.heap.size w w1:=by rw [hw1];exact Qah
 have hQ:Blk w1 w.heap.size 29 #[.slice (some ⟨b,o,none⟩) L cq]:=by rw [hw1];exact Qbf
 have HR1:=Zh (HR.out.below hb1);clear hw1 hca
 go_loop [10] (fun q=>∃ k:Nat,k≤m∧q=.int .i64 k∧∀ j x,j<k→l[j]?=some x→0≤x∧x<m) (fun q=>m-(intOf q).toNat)
 case atStart=>exact ⟨0,Nat.zero_le _,rfl,fun _ _ h=>absurd h (Nat.not_lt_zero _)⟩
 case round =>
  obtain ⟨k,hk,rfl,hall⟩:=hrel;have HA:=Zh hall;clear hall
  by_cases hlt:k<m
  · obtain ⟨b',o',x,rfl,hx,hcx⟩:=HR1.out.at_ hlt
    have j1:(0:Int)≤(k:Int):=by omega
    have j2:(k:Int)<(m:Int):=by omega
    have HX:=Zh hx;clear hx
    by_cases hok:0≤x∧x<m
    · have g0:=hok.1
      have g1:=hok.2;have HOK:=Zh hok;clear hok
      go_wp2_with fail
      go_round
      case rel=>exact ⟨k+1,by omega,by go_num,fun j y hj hy=>by
       by_cases e:j=k
       · subst e
         rw [HX.out] at hy
         cases hy
         exact HOK.out
       · exact HA.out j y (by omega) hy⟩
      case measure=>simp [intOf];omega
    · have HC:=Zh (Qic (n:=m) (p:=Qfk ls i) (l:=l) HLEN.out (fun hh=>hok ⟨hh.1.lo x (Zm HX.out),hh.1.hi x (Zm HX.out)⟩))
      by_cases hx0:x<0
      · clear hok
        go_wp2_with fail
        go_ret
        exact ⟨Qbz HC.out.symm,hb1⟩
      · have hx1:¬x<m:=by omega
        have hx2:x ≥ m:=by omega
        clear hok
        go_wp2_with fail
        go_ret
        exact ⟨Qbz HC.out.symm,hb1⟩
  · obtain rfl:m=k:=by omega
    have HN:=Zh (show ∀ x∈l,0≤x∧x<m from fun x hx=>by
     obtain ⟨j,hj⟩:=List.getElem?_of_mem hx;exact HA.out j x (by rw [←HLEN.out];exact (Zs hj).1) hj)
    clear HA
    go_wp2_with fail
    (refine Qaj ?_;intro w2 hw2)
    have hb2:Below w1.heap.size w1 w2:=by rw [hw2];exact Qah
    have hQ2:=hQ.below hb2 hQ.lt;have hB2:Blk w2 w1.heap.size 3 (Qcd (Qoz (l.take 0) m)):=by rw [hw2,List.take_zero,Qot];exact Blk.new _ _ _
    have hbw2:=Zb hb1 hb2;have hz12:=hb1.size;clear hw2 hmk
    go_loopw [12] (fun q W=>Below w1.heap.size w1 W∧∃ k:Nat,k≤m∧q=.int .i64 k∧Blk W w1.heap.size 3 (Qcd (Qoz (l.take k) m))) (fun q _=>m-(intOf q).toNat)
    case atStart=>exact ⟨hb2,0,Nat.zero_le _,rfl,hB2⟩
    case round =>
     clear hb2 hB2 hQ2 hbw2;obtain ⟨hbl,k,hk,rfl,hB⟩:=hrel
     by_cases hlt2:k<m
     · obtain ⟨b',o',x,rfl,hx,hcx⟩:=HR1.out.at_ hlt2
       have hxx:=HN.out x (Zm hx);obtain ⟨v,rfl⟩:∃ v:Nat,x=v:=⟨x.toNat,by omega⟩;have hv:v<m:=by omega
       have hcx2:=Zc hbl (Zn _) hcx;have c1:=hB.cellI (Qeh (l:=l.take k) hv);have c1f:=hB.frozen v;have d1:=Qxq l k (v:Int);have HBN:=Zh (hB.setI (Qod hx hv));have j1:(0:Int)≤(k:Int):=by omega
       have j2:(k:Int)<(m:Int):=by omega
       have j3:(0:Int)≤(v:Int):=by omega
       have j4:(v:Int)<(m:Int):=by omega
       clear hx hcx hB hxx;generalize (l.take k).countP (fun x=>x == (v:Int))=p at *;have hbn:Below w1.heap.size w1 (wr.setCell ⟨w1.heap.size,v,none⟩ (.int .i64 ((p:Int)+1))):=hbl.setCell (Zn _) _
       go_wp2_with fail
       go_roundw
       case rel=>exact ⟨hbn,k+1,by omega,by go_num,HBN.out⟩
       case measure=>simp [intOf];omega
     · obtain rfl:m=k:=by omega
       rw [List.take_of_length_le (by rw [HLEN.out];exact Zn _)] at hB;have m0:=Qcb l;have m1:=Qbx (l:=l) (n:=(m:Int)) (fun x hx=>(HN.out x hx).2) (by omega);obtain ⟨w3,hw3⟩:∃ w3,w3=wr:=⟨_,rfl⟩;subst hw3;have hbw3:=Zb hb1 hbl;have HMO:=Zh (Qsn A m c l w3 (HR.out.below hbw3) (by omega) (fun x hx=>by have:=HN.out x hx;omega));obtain ⟨M,hM⟩:∃ M:Nat,Qas l=M:=⟨(Qas l).toNat,by omega⟩;rw [hM] at HMO m0 m1;have HMM:=Zh hM;clear hM
       go_wp2_with fail
       go_loop [13] (fun q=>∃ k:Nat,k≤M∧q=.int .i64 k∧∀ c:Nat,c<k→(c:Int)∈l) (fun q=>M-(intOf q).toNat)
       case atStart=>exact ⟨0,Nat.zero_le _,rfl,fun _ h=>absurd h (Nat.not_lt_zero _)⟩
       case round =>
        obtain ⟨k,hk,rfl,hall⟩:=hrel;have HA:=Zh hall;clear hall
        go_wp2_with fail
        with_reducible refine HMO.out.mono ?_
        rintro e w' ⟨rfl,rfl⟩
        by_cases hlt3:k<M
        · have hkm:k<m:=by omega
          have c1:=hB.cellI (Qeh (l:=l) hkm);have j1:(0:Int)≤(k:Int):=by omega
          have j2:(k:Int)<(m:Int):=by omega
          have HCT:=Zh (show 0<l.countP (fun x=>x == (k:Int))↔(k:Int)∈l from by rw [List.countP_pos_iff];simp)
          generalize l.countP (fun x=>x == (k:Int))=p at *
          by_cases hp:p=0
          · subst hp
            have HC:=Zh (Qic (n:=m) (p:=Qfk ls i) (l:=l) HLEN.out (fun hh=>by
             have:=HCT.out.2 (hh.1.all k (by rw [HMM.out];omega));omega))
            go_wp2_with fail
            go_ret
            exact ⟨Qbz HC.out.symm,hbw3⟩
          · have e1:((p:Int) == 0)=false:=by simp;exact hp
            have HP:=Zh (HCT.out.1 (by omega));clear hp
            go_wp2_with fail
            go_round
            case rel=>exact ⟨k+1,by omega,by go_num,fun c hc=>by
             by_cases e:c=k
             · subst e;exact HP.out
             · exact HA.out c (by omega)⟩
            case measure=>simp [intOf];omega
        · obtain rfl:M=k:=by omega
          have HLV:=Zh (show Qer m l from ⟨HLEN.out,fun x hx=>(HN.out x hx).1,fun x hx=>(HN.out x hx).2,fun c hc=>HA.out c (by rw [HMM.out] at hc;omega)⟩)
          have hQ3:=hQ.below hbl hQ.lt;clear HA HN hB;have q0:=hQ3.cell 0;simp only [List.getElem?_toArray,List.getElem?_cons_zero] at q0;have HRw:=Zh (HR.out.below hbw3)
          by_cases hi0:i=0
          · have HC:=Zh (Qlh (n:=m) (p:=Qfk ls i) HLV.out (fun q hq=>by rw [hi0,Qqy] at hq;cases hq))
            have e1:¬((i:Int)+1 > 1):=by omega
            have e2:¬(0<i):=by omega
            have e3:¬((i:Int) > 0):=by omega
            clear hi0;have hb99:Below w3.heap.size w3 w3:=Zr _ _
            by_cases hm0:0<m
            · skip
              go_wp2_with fail
              go_loop [14] (fun q=>q=.int .i64 0) (fun _=>0)
              case atStart=>rfl
              case round =>
               subst hrel
               go_wp2_with fail
               go_loop [16] (fun q=>q=.int .i64 0) (fun _=>0)
               case atStart=>rfl
               case round =>
                subst hrel
                go_wp2_with fail
                all_goals
                 go_ret
                 exact ⟨Qbz HC.out.symm,Zb hbw3 hb99⟩
            · skip
              go_wp2_with fail
              go_loop [14] (fun q=>q=.int .i64 0) (fun _=>0)
              case atStart=>rfl
              case round =>
               subst hrel
               go_wp2_with fail
               go_loop [16] (fun q=>q=.int .i64 0) (fun _=>0)
               case atStart=>rfl
               case round =>
                subst hrel
                go_wp2_with fail
                all_goals
                 go_ret
                 exact ⟨Qbz HC.out.symm,Zb hbw3 hb99⟩
          · obtain ⟨j,rfl⟩:∃ j,i=j+1:=⟨i-1,by omega⟩
            obtain ⟨bp,op,A',m',c',p,e,hp,hcp,hrp,q1',q2'⟩:=HT.out.at_ (show j<L by omega)
            cases e
            obtain rfl:m=m':=by rw [←hrp.1];exact (HPV.out j p rfl hp).symm
            have HPP:=Zh hp;have HRp:=Zh (hrp.below hbw3);have HCP:=Zh (Zc hbw3 (Zn _) hcp);have i3:((j:Int)+1+1)-2=(j:Int):=by omega
            have i4:(0:Int)≤(j:Int):=by omega
            have i6:(j:Int)<(L:Int):=by omega
            have i7:(j:Int)+1+1 > 1:=by omega
            have HLp:=Zh hrp.1;clear hrp hp hcp q1' hi0
            go_wp2_with fail
            go_loopw [14] (fun q W=>Below w3.heap.size w3 W∧∃ k:Nat,k≤m∧q=.int .i64 k∧∀ (a v:Nat) (x y u z:Int),a<k→p[a]?=some x→p[v]?=some y→l[a]?=some u→l[v]?=some z→x≤y→u≤z) (fun q _=>m-(intOf q).toNat)
            case atStart=>exact ⟨Zr _ _,0,Nat.zero_le _,rfl,fun _ _ _ _ _ _ h=>absurd h (Nat.not_lt_zero _)⟩
            case round =>
             obtain ⟨hbr,k,hk,rfl,hall⟩:=hrel;have HA:=Zh hall;clear hall
             by_cases hlt4:k<m
             · obtain ⟨pb,po,x,rfl,hx,hcx⟩:=HRp.out.at_ hlt4
               obtain ⟨lb,lo,u,rfl,hu,hcu⟩:=HRw.out.at_ hlt4;have k1:(0:Int)≤(k:Int):=by omega
               have k2:(k:Int)<(m:Int):=by omega
               have HX:=Zh hx;have HU:=Zh hu;clear hx hu;obtain ⟨wo,hwo⟩:∃ wo,wo=wr:=⟨_,rfl⟩;subst hwo
               go_wp2_with fail
               go_loopw [15] (fun q W=>Below w3.heap.size w3 W∧∃ v:Nat,v≤m∧q=.int .i64 v∧∀ (v':Nat) (y z:Int),v'<v→p[v']?=some y→l[v']?=some z→x≤y→u≤z) (fun q _=>m-(intOf q).toNat)
               case atStart=>exact ⟨hbr,0,Nat.zero_le _,rfl,fun _ _ _ h=>absurd h (Nat.not_lt_zero _)⟩
               case round =>
                clear hbr;obtain ⟨hbr,v,hv,rfl,hall⟩:=hrel;have HV:=Zh hall;clear hall
                by_cases hlt5:v<m
                · obtain ⟨pb',po',y,e,hy,hcy⟩:=HRp.out.at_ hlt5
                  cases e
                  obtain ⟨lb',lo',z,e,hz,hcz⟩:=HRw.out.at_ hlt5
                  cases e
                  have HY:=Zh hy;have HZ:=Zh hz;have q0':=Zc hbr (Zn _) q0;have hcp':=Zc hbr (Zn _) HCP.out;have hcx':=Zc hbr (Zn _) hcx;have hcu':=Zc hbr (Zn _) hcu;have hcy':=Zc hbr (Zn _) hcy;have hcz':=Zc hbr (Zn _) hcz;have k3:(0:Int)≤(v:Int):=by omega
                  have k4:(v:Int)<(m:Int):=by omega
                  clear hy hz hcy hcz
                  by_cases hxy:x≤y
                  · by_cases huz:u > z
                    · have HC:=Zh (Qic (n:=m) (p:=Qfk ls (j+1)) (l:=l) HLEN.out (fun hh=>by
                       have:=hh.2 p (by rw [Qgp];exact HPP.out) k v x y u z HX.out HY.out HU.out HZ.out hxy;omega))
                      have e1:decide (x≤y)=true:=by simpa using hxy
                      go_wp2_with fail
                      go_quiet (fail)
                      go_wp2_with fail
                      go_ret
                      exact ⟨Qbz HC.out.symm,Zb hbw3 (Qbe hbr _)⟩
                    · have e1:decide (x≤y)=true:=by simpa using hxy
                      have HO:=Zh huz
                      go_wp2_with fail
                      go_quiet (fail)
                      go_wp2_with fail
                      go_roundw
                      case rel=>exact ⟨Qbe hbr _,v+1,by omega,by go_num,fun v' y' z' hv' h1 h2 h3=>by
                       by_cases e:v'=v
                       · subst e
                         rw [HZ.out] at h2
                         cases h2
                         have:=HO.out;omega
                       · exact HV.out v' y' z' (by omega) h1 h2 h3⟩
                      case measure=>simp [intOf];omega
                  · have e1:decide (x≤y)=false:=by simpa using hxy
                    have HO:=Zh hxy
                    go_wp2_with fail
                    go_quiet (fail)
                    go_wp2_with fail
                    go_roundw
                    case rel=>exact ⟨Qbe hbr _,v+1,by omega,by go_num,fun v' y' z' hv' h1 h2 h3=>by
                     by_cases e:v'=v
                     · subst e
                       rw [HY.out] at h1
                       cases h1
                       have:=HO.out;omega
                     · exact HV.out v' y' z' (by omega) h1 h2 h3⟩
                    case measure=>simp [intOf];omega
                · obtain rfl:m=v:=by omega
                  go_wp2_with fail
                  go_roundw
                  case rel=>exact ⟨hbr,k+1,by omega,by go_num,fun a v x' y u' z ha h1 h2 h3 h4 h5=>by
                   by_cases e:a=k
                   · subst e
                     rw [HX.out] at h1;rw [HU.out] at h3
                     cases h1
                     cases h3
                     exact HV.out v y z (by rw [←HLp.out];exact (Zs h2).1) h2 h4 h5
                   · exact HA.out a v x' y u' z (by omega) h1 h2 h3 h4 h5⟩
                  case measure=>simp [intOf];omega
             · obtain rfl:m=k:=by omega
               have HC:=Zh (Qlh (n:=m) (p:=Qfk ls (j+1)) HLV.out (fun q hq=>by
                rw [Qgp,HPP.out] at hq
                cases hq
                intro a v x y u z h1 h2 h3 h4 h5;exact HA.out a v x y u z (by rw [←HLp.out];exact (Zs h1).1) h1 h2 h3 h4 h5))
               clear HA
               go_wp2_with fail
               have hb99:=hbr
               go_loop [16] (fun q=>q=.int .i64 0) (fun _=>0)
               case atStart=>rfl
               case round =>
                subst hrel
                go_wp2_with fail
                all_goals
                 go_ret
                 exact ⟨Qbz HC.out.symm,Zb hbw3 hb99⟩
set_option maxHeartbeats 1000000 in
theorem Qqn (Q:Option Addr)(L cq i:Nat) (ls:List (List Int)) (l:List Int) (w:World) (h:RdT w Q L ls) (hl:ls[i]?=some l) (hL:L≤1000000) (hb:∀ x∈l,0≤x∧x≤1000000) (hn:l.length≤1000000) :
 Calls prog 118 #[.agg #[.slice Q L cq],.int .i64 ((i:Int)+1)] w fun e w'=>e=.returned (.int .i64 (Qas l))∧Below w.heap.size w w':=by
 have hiL:i<L:=by rw [←h.1];exact (Zs hl).1
 obtain ⟨qb,qo,A1,n1,c1,l1,rfl,hl1,k0,k1,k2,k3⟩:=h.at_ hiL;rw [hl] at hl1
 cases hl1
 have hn1:n1≤1000000:=by rw [←k1.1];exact hn
 have HMO:=Zh (fun V (hV:Below w.heap.size w V)=>Qsn A1 n1 c1 l V (k1.below hV) hn1 hb);have HK0:=Zh (show ∀ V,Below w.heap.size w V→V.cell? ⟨qb,qo+i,none⟩=some (.slice A1 n1 c1) from fun V hV=>Zc hV (Zn _) k0)
 have i4:(i:Int)+1-1=(i:Int):=by omega
 have i2:(i:Int)<(L:Int):=by omega
 have i3:(0:Int)≤(i:Int):=by omega
 have wl:IntKind.i64.wrap (i:Int)=(i:Int):=IntWalk.i64_in _ (by omega);clear h hl hb hn k0 k1 k2 k3
 go_enter func118,ntmps118
 go_wp2_with fail
 (refine Qad ?_;intro w1 hw1)
 have hb1:Below w.heap.size w w1:=by rw [hw1];exact Qah
 have hX1:Blk w1 w.heap.size 29 #[.slice (some ⟨qb,qo,none⟩) L cq]:=by rw [hw1];exact Blk.new _ _ _
 clear hw1;with_reducible refine (Qhh _ L cq i w1 hiL).mono ?_
 rintro r w2 ⟨rfl,hb2⟩;have hX2:=hX1.below hb2 hX1.lt;have hb2':=Zb hb1 hb2;have x0:w2.cell? ⟨w.heap.size,0,none⟩=some (.slice (some ⟨qb,qo,none⟩) L cq):=Zq hX2;have x2:=HK0.out w2 hb2';clear hb1 hb2 hX1 hX2
 go_wp2_with fail
 with_reducible refine (HMO.out w2 hb2').mono ?_
 rintro r w3 ⟨rfl,rfl⟩
 go_wp2_with fail
 go_ret
 exact ⟨rfl,hb2'⟩
theorem Qxz:(Tryz.prog.info? 109).map (fun i=>(i.zero,i.size,i.bytes))=some (some (.agg #[.slice none 0 0,.slice none 0 0]),2,48):=by kernel_rfl
theorem Qtg:(Tryz.prog.info? 135).map (fun i=>(i.zero,i.size,i.bytes))=some (some (.slice none 0 0),1,24):=by kernel_rfl
theorem Qlz (k:Nat)(hk:k≤1000000)(W:World):(Instr.makeSlice 135 (.int .i64 (k:Int)) (.int .i64 (k:Int))).run prog W=.ok (.slice (some ⟨W.heap.size,0,none⟩) k k) (W.alloc (.cells (Qbg (.slice none 0 0) (k*2)) 109)):=by
 obtain ⟨i,hi,hz,hs,hbb⟩:=info_parts Qxz
 have hb':(i.bytes:Int)*(k:Int)≤281474976710656:=by
  rw [hbb];omega
 have hr:=run_make (P:=prog) W 135 109 i _ underlying135 hi hz .i64 .i64 k k (by omega) (by omega) hb' (by omega);simp only [Int.toNat_natCast] at hr;rw [hs,show (Value.agg #[.slice none 0 0,.slice none 0 0]).cells=#[.slice none 0 0,.slice none 0 0] from rfl,Qwz] at hr
 exact hr
def GtL (W:World)(B:Nat)(A:Option Addr)(i c:Nat)(xs:List Value)(ar:List Tri) (ls:List (List Int)):Prop :=
 Own W B 135 1 A i c xs∧∀ (j:Nat) (l:List Int),j<i→ls[j]?=some l→∃ (A2:Option Addr) (c2:Nat),xs[j]?=some (.slice A2 (Qas l).toNat c2)∧RdC (msk W (fun b=>B≤b∧b<W.heap.size∧Qac A≠some b)) A2 (Qas l).toNat (Qaf ar l)∧(Qas l).toNat≤c2∧c2≤9223372036854775807
section
variable {W W':World} {B i c:Nat} {A:Option Addr} {xs:List Value} {ar:List Tri} {ls:List (List Int)}
theorem GtL.nil (W:World)(B:Nat)(ar:List Tri) (ls:List (List Int)):GtL W B none 0 0 [] ar ls:=⟨Own.nil _ _ _ _,fun _ _ h=>absurd h (Nat.not_lt_zero _)⟩
theorem GtL.below (h:GtL W B A i c xs ar ls)(hb:Below W.heap.size W W'):GtL W' B A i c xs ar ls :=
 ⟨h.1.below hb,fun j l hj hl=>by
  obtain ⟨A2,c2,h1,h2,h3⟩:=h.2 j l hj hl;exact ⟨A2,c2,h1,h2.le (Le.trans (Qbk.msk (Qbk.below hb)) (Qbn (fun b hb'=>⟨hb'.1,Nat.lt_of_lt_of_le hb'.2.1 hb.size,hb'.2.2⟩))),h3⟩⟩
theorem GtL.push {l:List Int}{R:Option Addr}{c' cr:Nat}{A':Option Addr}(h:GtL W B A i c xs ar ls) (hl:ls[i]?=some l)
 (hr:RdC (msk W (fun b=>B≤b∧b<W.heap.size∧Qac A≠some b)) R (Qas l).toNat (Qaf ar l)) (h1:(Qas l).toNat≤cr) (h2:cr≤9223372036854775807)
 (ho:Own W' B 135 1 A' (i+1) c' (xs ++[.slice R (Qas l).toNat cr])) (hg:W.grownBy W' (Qac A)) (hat:Qac A'=Qac A∨Qac A'=some W.heap.size):GtL W' B A' (i+1) c' (xs ++[.slice R (Qas l).toNat cr]) ar ls:=by
 have hxl:xs.length=i:=by rw [h.1.1,Nat.mul_one]
 have hle:Le (msk W (fun b=>B≤b∧b<W.heap.size∧Qac A≠some b)) (msk W' (fun b=>B≤b∧b<W'.heap.size∧Qac A'≠some b)) :=
  Le.trans (Qbk.msk (Qbk.grown hg (fun b hb=>hb.2.2))) (Qbn (fun b hb=>⟨hb.1,Nat.lt_of_lt_of_le hb.2.1 hg.size,fun e=>by
   rcases hat with e2|e2
   · exact hb.2.2 (e2▸e)
   · rw [e2] at e
     have:=Option.some.inj e;omega⟩))
 refine ⟨ho,fun j l' hj hl'=>?_⟩
 by_cases e:j=i
 · subst e
   rw [hl] at hl'
   cases hl'
   exact ⟨R,cr,by rw [←hxl,List.getElem?_append_right (Zn _),Nat.sub_self];rfl,hr.le hle,h1,h2⟩
 · obtain ⟨A2,c2,k1,k2,k3⟩:=h.2 j l' (by omega) hl'
   exact ⟨A2,c2,by rw [List.getElem?_append_left (by omega)];exact k1,k2.le hle,k3⟩
theorem GtL.rdG {G:Nat→Prop}(h:GtL W B A i c xs ar ls)(hl:ls.length=i)(hG:∀ b,B≤b→b<W.heap.size→G b):RdG (msk W G) A i (Qae ar ls):=by
 refine ⟨by simp [Qae,hl],fun j row hr=>?_⟩;unfold Qae at hr;rw [List.getElem?_map] at hr
 cases e:ls[j]? with
 | none=>rw [e] at hr;cases hr
 | some l =>
  rw [e] at hr
  cases hr
  obtain ⟨A2,c2,k1,k2,k3⟩:=h.2 j l (by rw [←hl];exact (Zs e).1) e;obtain ⟨b,o,e2,k4⟩:=h.1.rds.2 _ _ k1;have hb:=h.1.lt b (by rw [e2];rfl);exact ⟨b,o,A2,_,c2,e2,Qaz.2 ⟨hG b hb.1 hb.2,k4⟩,k2.le (Qbn (fun b hb=>hG b hb.1 hb.2.1)),k3⟩
end
set_option maxHeartbeats 4000000 in
set_option maxRecDepth 20000 in
theorem Qqd (A B C Q:Option Addr)(n m k c d e L cq:Nat)(N:Qaq) (ls:List (List Int)) (w:World) (h:Qca w A B C n m k N) (hok:Qaw N) (hq:RdT w Q L ls) (hP:Qay N.vs.length ls) :
 Calls prog 61 #[.agg #[.slice A n c,.slice B m d,.slice C k e],.agg #[.slice Q L cq]] w fun r w'=>∃ A' c',r=.returned (.slice A' L c')∧RdG (msk w' (fun b=>w.heap.size≤b∧b<w'.heap.size)) A' L (Qae N.ar ls)∧Below w.heap.size w w':=by
 have HH:=Zh h;have HT:=Zh hq;have HP:=Zh hP;have HOK:=Zh hok;have HVN:=Zh h.1.1;have hn4:n≤4096:=by rw [←h.1.1];exact hok.lv
 have hm:N.ar.length≤16384:=hok.la;have HMM:=Zh hm;have HLM:=Zh h.2.1.1;have l6:L≤6:=by rw [←hq.1];exact hP.l6
 clear h hok hq hP hm
 go_enter func61,ntmps61
 go_wp2_with fail
 (refine Qaj ?_;intro w1 hw1)
 have hb1:Below w.heap.size w w1:=by rw [hw1];exact Qah
 have hX:Blk w1 w.heap.size 26 #[.slice A n c,.slice B m d,.slice C k e]:=by
  rw [hw1];refine Blk.alloc ?_ _;exact Blk.new _ _ _
 have hY:Blk w1 (w.heap.size+1) 29 #[.slice Q L cq]:=by
  rw [hw1];refine Blk.new' _ _ _ ?_;simp
 clear hw1
 go_loopw [5,6] (fun z q W=>∃ (i:Nat) (A':Option Addr) (c':Nat) (xs:List Value),i≤L∧q=.int .i64 ((i:Int)+1)∧z=.slice A' i c'∧GtL W w1.heap.size A' i c' xs N.ar ls∧Below w1.heap.size w1 W) (fun _ q _=>L+1-(intOf q).toNat)
 case atStart=>exact ⟨0,none,0,[],Nat.zero_le _,rfl,rfl,GtL.nil _ _ _ _,Zr _ _⟩
 case round =>
  obtain ⟨i,A',c',xs,hi,rfl,rfl,hGt,hbl⟩:=hrel;have HGT:=Zh hGt;have hbw:=Zb hb1 hbl;have hXr:=hX.below hbl hX.lt;have hYr:=hY.below hbl hY.lt;have x0:wr.cell? ⟨w.heap.size,0,none⟩=some (.slice A n c):=Zq hXr;have x1:wr.cell? ⟨w.heap.size,1,none⟩=some (.slice B m d):=Zq hXr;have x2:wr.cell? ⟨w.heap.size,2,none⟩=some (.slice C k e):=Zq hXr;have y0:wr.cell? ⟨w.heap.size+1,0,none⟩=some (.slice Q L cq):=Zq hYr;have yl:=hYr.lt;clear hGt
  by_cases hlt:i<L
  rotate_left
  · obtain rfl:i=L:=by omega
    have i1:¬((i:Int)+1≤(i:Int)):=by omega
    go_wp2_with fail
    go_ret
    exact ⟨A',⟨c',rfl⟩,HGT.out.rdG HT.out.1 (fun b h1 h2=>⟨by have:=hb1.size;omega,h2⟩),hbw⟩
  obtain ⟨qb,qo,LA,ln,lc,l,rfl,hl,hc,hr,q1,q2⟩:=HT.out.at_ hlt;have hlo:=HP.out.lvl l (Zm hl);obtain rfl:n=ln:=by rw [←hr.1,hlo.len];exact HVN.out.symm
  have hM0:=Qcb l;have hM1:=Qbx (l:=l) (n:=(n:Int)) (fun x hx=>by have:=hlo.hi x hx;have:=HVN.out;omega) (by omega);obtain ⟨M,hM⟩:∃ M:Nat,Qas l=M:=⟨(Qas l).toNat,by omega⟩;have HCN:=Zh (show ∀ V,Below w.heap.size w V→Calls prog 118 #[.agg #[.slice (some ⟨qb,qo,none⟩) L cq],.int .i64 ((i:Int)+1)] V fun e w'=>e=.returned (.int .i64 M)∧Below V.heap.size V w' from fun V hV=>hM▸Qqn _ L cq i ls l V (HT.out.below hV) hl (by omega) (fun x hx=>⟨hlo.lo x hx,by have:=hlo.hi x hx;have:=HVN.out;omega⟩) (by have:=hlo.len;have:=HVN.out;omega))
  have HCR:=Zh (fun V (hV:Below w.heap.size w V)=>Qgn A B C (some ⟨qb,qo,none⟩) n m k c d e L cq i N ls l V (HH.out.below hV) HOK.out (HT.out.below hV) hl hlo.len (by omega));have HLO:=Zh hlo;have HLL:=Zh hl;have HR:=Zh hr;have HC:=Zh hc;have HMM2:=Zh hM;rw [hM] at hM0 hM1;have hM3:M≤1000000:=by omega
  have hmkc:=Qlz M hM3;have i1:(i:Int)+1≤(L:Int):=by omega
  clear hr hlo hl hc q1 q2 hM
  go_wp2_with fail
  with_reducible refine (HCN.out wr hbw).mono ?_
  rintro r w2' ⟨rfl,hb2⟩;obtain ⟨w2,hw2⟩:∃ w2,w2=w2':=⟨_,rfl⟩;subst hw2;have hbr2:=hb2;have hbl2:=Zb hbl hb2;have hbw2:=Zb hbw hb2;have HGT2:=Zh (HGT.out.below hb2);have hX2:=hXr.below hb2 hXr.lt;have hY2:=hYr.below hb2 hYr.lt;clear x0 x1 x2 y0 yl hb2 hXr hYr hbl hbw HGT;have x0:w2.cell? ⟨w.heap.size,0,none⟩=some (.slice A n c):=Zq hX2;have x1:w2.cell? ⟨w.heap.size,1,none⟩=some (.slice B m d):=Zq hX2;have x2:w2.cell? ⟨w.heap.size,2,none⟩=some (.slice C k e):=Zq hX2;have y0:w2.cell? ⟨w.heap.size+1,0,none⟩=some (.slice (some ⟨qb,qo,none⟩) L cq):=Zq hY2;have yl:=hY2.lt;have hz12:=hbl2.size;have hXl:=hX2.lt;have x0b:=fun o=>Zc (show Below w2.heap.size w2 (w2.alloc o) from Qah) (Zn _) x0
  have x1b:=fun o=>Zc (show Below w2.heap.size w2 (w2.alloc o) from Qah) (Zn _) x1
  have x2b:=fun o=>Zc (show Below w2.heap.size w2 (w2.alloc o) from Qah) (Zn _) x2
  have y0b:=fun o=>Zc (show Below w2.heap.size w2 (w2.alloc o) from Qah) (Zn _) y0
  go_wp2_with fail
  (refine Qad ?_;intro w5 hw5)
  have hb45:Below w2.heap.size w2 w5:=by rw [hw5];exact Qah
  have hC5:Blk w5 w2.heap.size 109 (Qbg (.slice none 0 0) (M*2)):=by rw [hw5];exact Blk.new _ _ _
  clear hw5 x0 x1 x2 y0 x0b x1b x2b y0b hmkc;have hbw5:=Zb hbw2 hb45;have hz45:w2.heap.size+1≤w5.heap.size:=by have:=hC5.lt;omega
  with_reducible refine (HCR.out w5 hbw5).mono ?_
  rintro r w6 ⟨AX,KX,cX,rfl,hX6,hXlo,hb6⟩;have HXlo:=Zh hXlo;clear hXlo;have hKX:KX=(Qau N.ar l).length:=hX6.1.symm;subst hKX;have hb26:=Zb hb45 hb6;have hbw6:=Zb hbw5 hb6
  have hI6:IkG 109 w6 w6.heap.size w2.heap.size (M*2) (Qdl (toC N.ar l) (frC N.ar l) ((Qau N.ar l).take 0) M):=by
   rw [List.take_zero,Qnf];exact IkG.start (by have:=hb6.size;omega) (hC5.below hb6 hC5.lt)
  have HXL:=Zh (show ∀ x∈Qau N.ar l,∃ (a:Nat) (y:Tri),x=(a:Int)∧N.ar[a]?=some y from fun x hx=>by
   obtain ⟨a,y,e1,e2,_⟩:=Qru.1 hx;exact ⟨a,y,e1,e2⟩)
  have hXm:(Qau N.ar l).length≤16384:=Nat.le_trans (Qff _ _) HMM.out;have hz56:=hb6.size;have HX6:=Zh hX6;clear hC5 hb45 hb6 hbw5;generalize hKK:(Qau N.ar l).length=K at *;have HKK:=Zh hKK;clear hKK
  go_wp2_with fail
  go_loopw [9] (fun q W=>w6.heap.size≤W.heap.size∧Below w2.heap.size w2 W∧∃ j:Nat,j≤K∧q=.int .i64 j∧RdI W AX K (Qau N.ar l)∧IkG 109 W w6.heap.size w2.heap.size (M*2) (Qdl (toC N.ar l) (frC N.ar l) ((Qau N.ar l).take j) M)) (fun q _=>K-(intOf q).toNat)
  case atStart=>exact ⟨Zn _,hb26,0,Nat.zero_le _,rfl,hX6,hI6⟩
  case round =>
   clear hb26 hX6 hI6;obtain ⟨hsz6,hbl2w,j,hj,rfl,hXj,hI⟩:=hrel
   by_cases hlt2:j<K
   rotate_left
   · obtain rfl:K=j:=by omega
     rw [List.take_of_length_le (by rw [HKK.out];exact Zn _)] at hI;have HG9:=Zh (HGT2.out.below hbl2w)
     have HRC:=Zh (show RdC (msk wr (fun b=>w1.heap.size≤b∧b<wr.heap.size∧Qac A'≠some b)) (some ⟨w2.heap.size,0,none⟩) (Qas l).toNat (Qaf N.ar l) from by
      have hI':IkG 109 wr w6.heap.size w2.heap.size ((Qas l).toNat*2) (Qdl (toC N.ar l) (frC N.ar l) (Qau N.ar l) (Qas l).toNat):=by
       rw [HMM2.out,Int.toNat_natCast];exact hI
      exact hI'.rdCM ⟨by omega,hI.lt,fun e=>by have:=(HGT2.out.1.lt _ e).2;omega⟩ (fun b h1 h2=>⟨by omega,h2,fun e=>by have:=(HGT2.out.1.lt _ e).2;omega⟩))
     have HMN:=Zh (show (Qas l).toNat=M by rw [HMM2.out];simp)
     obtain ⟨W2,hW2⟩:∃ W2,W2=wr.alloc (.cells #[.slice (some ⟨w2.heap.size,0,none⟩) M M] 135):=⟨_,rfl⟩;have hbW:Below wr.heap.size wr W2:=by rw [hW2];exact Qah
     have HG10:=Zh (HG9.out.below hbW);have hown:=HG10.out.1;have hrd:Rds W2 1 (some ⟨wr.heap.size,0,none⟩) 1 [.slice (some ⟨w2.heap.size,0,none⟩) M M]:=by rw [hW2];exact (Blk.new wr 135 #[.slice (some ⟨w2.heap.size,0,none⟩) M M]).rds rfl
     have hsz:w1.heap.size≤W2.heap.size:=by have:=hbW.size;have:=hbl2w.size;omega
     have hbw9:=Zb (Zb hbl2 hbl2w) hbW;have HW2:=Zh hW2;have j2:¬((K:Int)<(K:Int)):=by omega
     clear hW2 hI hXj
     go_wp2_with (at_builtin;rw [←HW2.out];with_reducible refine Qap rfl (.tmp 97) (.tmp 99) 37 rfl 135 _ 1 24 Qtg underlying37 rfl (by omega) rfl rfl hown hrd (Qcl _ _ _) (by omega) (by omega) hsz ?_)
     intro A3 c3 w8 ho8 hg8 hat8;have HB8:=Zh (Bel.grownOwn hbw9 hg8 hown hsz);have HG11:=Zh (show GtL w8 w1.heap.size A3 (i+1) c3 (xs ++[.slice (some ⟨w2.heap.size,0,none⟩) (Qas l).toNat M]) N.ar ls from HG10.out.push HLL.out (HRC.out.le (Le.trans (Qbk.msk (Qbk.below hbW)) (Qbn (fun b hb'=>⟨hb'.1,Nat.lt_of_lt_of_le hb'.2.1 hbW.size,hb'.2.2⟩)))) (by rw [HMN.out];exact Zn _) (by omega) (by rw [HMN.out];exact ho8) hg8 hat8)
     clear hown hrd hsz hbw9 ho8 hg8 hat8 hbW
     go_wp2_with fail
     go_roundw
     case rel=>exact ⟨i+1,A3,c3,_,by omega,by go_num,rfl,HG11.out,HB8.out⟩
     case measure=>simp [intOf];omega
   obtain ⟨xb,xo,x,rfl,hx,hc6⟩:=HX6.out.at_ hlt2;obtain ⟨a,⟨u,v,z⟩,rfl,hay⟩:=HXL.out x (Zm hx);have hxb6:=Qal hc6;simp only at hxb6;have hu0:=HOK.out.arcs _ (Zm hay);have f0:=hu0.f0;have f1:=hu0.f1;have g0:=hu0.g0;have g1:=hu0.g1;simp only at f0 f1 g0 g1;rw [HVN.out] at f1 g1;obtain ⟨u,rfl⟩:∃ u':Nat,u=u':=⟨u.toNat,by omega⟩;obtain ⟨v,rfl⟩:∃ v':Nat,v=v':=⟨v.toNat,by omega⟩;obtain ⟨p,hp1,hp2,hp3⟩:=Qdj HLO.out (v:=v) (by rw [HVN.out];omega);obtain ⟨q,hq1,hq2,hq3⟩:=Qdj HLO.out (v:=u) (by rw [HVN.out];omega);rw [HMM2.out,Int.toNat_natCast] at hp2 hq2;have hbww:=Zb hbw2 hbl2w;obtain ⟨rb,ro,_,rfl,e1,cp⟩:=(HR.out.below hbww).at_ (i:=v) (by omega);rw [hp3] at e1
   cases e1
   obtain ⟨rb',ro',_,e2,e1,cq'⟩:=(HR.out.below hbww).at_ (i:=u) (by omega);rw [hq3] at e1
   cases e1
   cases e2
   have hrow:=Zc hbww (Zn _) HC.out;obtain ⟨ab,ao,rfl,y1,y2,y3⟩:=(HH.out.below hbww).2.1.2 a _ hay;simp only at y1 y2 y3;have hXr:=hX2.below hbl2w hX2.lt;have hYr:=hY2.below hbl2w hY2.lt;have ham:a<m:=by rw [←HLM.out];exact (Zs hay).1
   obtain ⟨_,_,_,eX,hx',hcx⟩:=hXj.at_ hlt2
   cases eX
   rw [hx] at hx'
   cases hx'
   have HNX:=Zh (show Qdl (toC N.ar l) (frC N.ar l) ((Qau N.ar l).take (j+1)) M=((Qdl (toC N.ar l) (frC N.ar l) ((Qau N.ar l).take j) M).set (p*2) (((Qau N.ar l).take j).filter (fun a=>toC N.ar l a == (p:Int)) ++[(a:Int)])).set (q*2+1) (((Qau N.ar l).take j).filter (fun a=>frC N.ar l a == (q:Int)) ++[(a:Int)]) by
    rw [Qlm ((Qlu hay).trans hp1) ((Qmc hay).trans hq1) hp2 hq2,List.take_succ_eq_append_getElem (Zs hx).1,(Zs hx).2])
   have HP1:=Zh (Qiw (t:=toC N.ar l) (f:=frC N.ar l) (X:=(Qau N.ar l).take j) hp2);have HQ1:=Zh (Qgu (t:=toC N.ar l) (f:=frC N.ar l) (X:=(Qau N.ar l).take j) hq2);have hfl1:(((Qau N.ar l).take j).filter (fun a=>toC N.ar l a == (p:Int))).length≤j:=Nat.le_trans (List.length_filter_le _ _) (List.length_take_le _ _);have hfl2:(((Qau N.ar l).take j).filter (fun a=>frC N.ar l a == (q:Int))).length≤j:=Nat.le_trans (List.length_filter_le _ _) (List.length_take_le _ _);have k1:(0:Int)≤(j:Int):=by omega
   have k2:(j:Int)<(K:Int):=by omega
   have k3:(0:Int)≤(v:Int):=by omega
   have k4:(v:Int)<(n:Int):=by omega
   have k5:(0:Int)≤(u:Int):=by omega
   have k6:(u:Int)<(n:Int):=by omega
   have k7:(0:Int)≤(p:Int):=by omega
   have k8:(p:Int)<(M:Int):=by omega
   have k9:(0:Int)≤(q:Int):=by omega
   have k10:(q:Int)<(M:Int):=by omega
   have k11:(0:Int)≤(a:Int):=by omega
   have k12:(a:Int)<(m:Int):=by omega
   have k13:(0:Int)≤(i:Int):=by omega
   have k14:(i:Int)<(L:Int):=by omega
   have k15:(i:Int)+1-1=(i:Int):=by omega
   have wl:IntKind.i64.wrap (i:Int)=(i:Int):=IntWalk.i64_in _ (by omega)
   have HSX:=Zh (show ∀ V,Below wr.heap.size wr V→V.cell? ⟨w.heap.size,1,none⟩=some (.slice (some ⟨ab,ao,none⟩) m d)∧V.cell? ⟨w.heap.size+1,0,none⟩=some (.slice (some ⟨qb,qo,none⟩) L cq)∧V.cell? ⟨qb,qo+i,none⟩=some (.slice (some ⟨rb,ro,none⟩) n lc)∧V.cell? ⟨ab,ao+a*3,none⟩=some (.int .i64 u)∧V.cell? ⟨ab,ao+a*3+1,none⟩=some (.int .i64 v)∧V.cell? ⟨rb,ro+v,none⟩=some (.int .i64 p)∧V.cell? ⟨rb,ro+u,none⟩=some (.int .i64 q)∧V.cell? ⟨xb,xo+j,none⟩=some (.int .i64 a) from
    fun V hV=>⟨by rw [(hXr.below hV hXr.lt).cell];rfl,by rw [(hYr.below hV hYr.lt).cell];rfl,Zc hV (Zn _) hrow,Zc hV (Zn _) y1,Zc hV (Zn _) y2,Zc hV (Zn _) cp,Zc hV (Zn _) cq',Zc hV (Zn _) hcx⟩)
   have HCX:=Zh hx;have HXB:=Zh (show w2.heap.size<xb∧xb<w6.heap.size from ⟨by have:=HXlo.out xb rfl;omega,hxb6⟩)
   have HIV0:=Zh hI;have HXV0:=Zh hXj;have HWV0:=Zh hbl2w;clear hx hay hu0 hp1 hq1 hp3 hq3 cp cq' hrow y1 y2 y3 hXr hYr hcx hI hXj hbl2w hbww hc6 hxb6;generalize ((Qau N.ar l).take j).filter (fun a=>toC N.ar l a == (p:Int))=lp at *;generalize ((Qau N.ar l).take j).filter (fun a=>frC N.ar l a == (q:Int))=lq at *
   go_wp2_with fail
   refine wp_region_held_drew (S:=fun V=>Below wr.heap.size wr V) (by kernel_rfl) (Zr _ _).drew (fun _=>?_);refine tz 0 33 ?_;refine tz 1 34 ?_;refine tz 2 35 ?_;refine tz 3 36 ?_;refine tz 4 37 ?_;refine tz 5 38 ?_;refine tz 6 39 ?_;refine tz 7 40 ?_;refine tz 8 41 ?_;refine tz 9 42 ?_;refine tz 10 43 ?_;refine tz 11 44 ?_;refine tz 12 45 ?_;refine tz 13 46 ?_;refine tz 14 47 ?_;refine tz 15 48 ?_;refine tz 16 49 ?_;refine tz 17 10 ?_;refine Zd ?_
   go_wp2_with fail
   refine wp_region_held_drew (S:=fun V=>Below wr.heap.size wr V) (by kernel_rfl) (Zr _ _).drew.drew (fun _=>?_);refine tz 0 50 ?_;refine tz 1 51 ?_;refine tz 2 52 ?_;refine tz 3 53 ?_;refine tz 4 54 ?_;refine tz 5 55 ?_;refine tz 6 56 ?_;refine tz 7 57 ?_;refine tz 8 58 ?_;refine tz 9 59 ?_;refine tz 10 60 ?_;refine tz 11 61 ?_;refine tz 12 62 ?_;refine tz 13 63 ?_;refine tz 14 64 ?_;refine tz 15 65 ?_;refine tz 16 66 ?_;refine tz 17 11 ?_;refine Zd ?_;clear HSX;obtain ⟨V1,hV1⟩:∃ V1,V1=wr.drew.drew:=⟨_,rfl⟩;rw [←hV1];have hbV:Below wr.heap.size wr V1:=by rw [hV1];exact (Zr _ _).drew.drew
   have HIV:=Zh (HIV0.out.below hbV);have HXV:=Zh (HXV0.out.below hbV);have HWV:=Zh (Zb HWV0.out hbV);have HZV:=Zh (Nat.le_trans hsz6 hbV.size);have HLX:=Zh HP1.out;clear hV1 hbV HIV0 HXV0 HWV0 hsz6
   go_wp2_with fail
   obtain ⟨Ac,cc,lc,ec,cwc,ffc,hoc⟩:=HIV.out.row (u:=p*2) (by omega);rw [HLX.out] at ec
   cases ec
   have hXt:=HXV.out.at_ hlt2;obtain ⟨xb',xo',x',ee,hx',hcx⟩:=hXt
   cases ee
   rw [HCX.out] at hx'
   cases hx'
   have hxA:∀ g,Qac Ac=some g→g≠xb∧g≠w2.heap.size:=fun g e=>by have h1:=(hoc.lt g e).1;have:=HXB.out;omega
   have hoz:=HWV.out.size;refine Qbp 15 (S:=fun V=>V.cell? ⟨w2.heap.size,p*2,none⟩=some (.slice Ac lp.length cc)∧V.cell? ⟨xb,xo+j,none⟩=some (.int .i64 (a:Int))) (by kernel_rfl) ⟨cwc,hcx⟩ (fun _=>?_);refine tkF 0 67 (h:=⟨_,tv,?_⟩);simp only [pE,List.set];refine tkF 1 68 (h:=⟨_,tv,?_⟩);simp only [pE,List.set];refine tkF 2 69 (h:=⟨_,tv,?_⟩);simp only [pE,List.set];refine tkF 3 70 (h:=⟨_,tv,?_⟩);simp only [pE,List.set];refine tkF 4 71 (h:=⟨_,tv,?_⟩);simp only [pE,List.set];refine tkF 5 72 (h:=⟨_,tv,?_⟩);simp only [pE,List.set];refine tkK 6 73 (h:=⟨_,tv,?_⟩);simp only [pE,List.set];refine tkF 7 74 (h:=⟨_,tv,?_⟩);simp only [pE,List.set];refine tkF 8 75 (h:=⟨_,tv,?_⟩);simp only [pE,List.set];refine tkF 9 76 (h:=⟨_,tv,?_⟩);simp only [pE,List.set];refine tkK 10 77 (h:=⟨_,tv,?_⟩);simp only [pE,List.set];obtain ⟨w9,hw9⟩:∃ w9,w9=(V1.alloc (.cells #[.int .i64 (a:Int)] 3)).drew:=⟨_,rfl⟩;have hb9:Below V1.heap.size V1 w9:=by rw [hw9];exact ((Zr _ _).alloc (Zn _) _).drew
   have hI9:=HIV.out.below hb9;have hX9:=HXV.out.below hb9;have hrd9:Rds w9 1 (some ⟨V1.heap.size,0,none⟩) 1 (Qag [(a:Int)]):=by rw [hw9];exact ((Blk.new V1 3 (Qcd [(a:Int)])).drew).rds rfl
   have hro9:=hoc.below hb9;have hrc9:=Zc hb9 (Zn _) cwc;have hcx9:=Zc hb9 (Zn _) hcx;have hwb9:=Zb HWV.out hb9;have hsz9:w6.heap.size≤w9.heap.size:=Nat.le_trans HZV.out hb9.size;refine Qbs (i:=11) (by kernel_rfl) (by rfl) rfl (fun K hK=>?_);go_simp;rw [←hw9];refine hK.out _ _ ⟨hrc9,hcx9⟩ (fun _=>?_);clear hK K hw9;refine Qbs (i:=12) (by kernel_rfl) (by rfl) rfl (fun K hK=>?_);with_reducible refine Qam (some 79) rfl rfl (.tmp 73) (.tmp 78) 67 rfl 3 _ 1 8 Qbb underlying67 rfl (by omega) rfl rfl hro9 hrd9 (Qak _) (by omega) (by omega) hsz9 ?_
   intro RA' rc' w10 ho10 hg10 hat10
   have hcg:w10.cell? ⟨w2.heap.size,p*2,none⟩=some (.slice Ac lp.length cc):=by
    rw [World.cell?_of_block (hg10.block w2.heap.size (by have:=hI9.lt;omega) (fun e=>(hxA _ e.symm).2 rfl))];exact hrc9
   have hcy:w10.cell? ⟨xb,xo+j,none⟩=some (.int .i64 (a:Int)):=by
    rw [World.cell?_of_block (hg10.block xb (by have:=HXB.out;omega) (fun e=>(hxA _ e.symm).1 rfl))];exact hcx9
   obtain ⟨xf,hfv,hff⟩:=hI9.cellG (u:=p*2) (by omega) hg10 (hro9.ne (by omega));refine hK.out _ _ ⟨hcg,hcy⟩ (fun _=>?_);clear hK K;simp only [Act.put,List.setIfInBounds_toArray,List.set_cons_zero,List.set_cons_succ];have hIF:=hI9.push HLX.out hrc9 ho10 hg10 hat10;have hbF:Below w2.heap.size w2 (w10.setCell ⟨w2.heap.size,p*2,none⟩ (.slice RA' (lp.length+1) rc')):=Bel.setCell_ (hwb9.grown hg10 (by omega) (fun g e=>by have:=(hro9.lt g e).1;omega)) (by omega)
   have hXF:RdI (w10.setCell ⟨w2.heap.size,p*2,none⟩ (.slice RA' (lp.length+1) rc')) (some ⟨xb,xo,none⟩) K (Qau N.ar l) :=
    (RdK.grownN hX9 hg10 (fun g hg e=>(hxA g e).1 (by cases hg;rfl))).far _ (fun e=>by have:=HXB.out;have e2:xb=w2.heap.size:=Option.some.inj e;omega)
   have hzF:w6.heap.size≤(w10.setCell ⟨w2.heap.size,p*2,none⟩ (.slice RA' (lp.length+1) rc')).heap.size:=by have:=hg10.size;simp [World.setCell];omega
   refine tkF 13 80 (h:=⟨_,tv,?_⟩);simp only [pE,List.set];refine tkF 14 81 (h:=⟨_,tv,?_⟩);simp only [pE,List.set];refine Qcc (k:=15) (by kernel_rfl) rfl (fun K hK=>?_);go_simp;refine hK.out _ _ ?_;clear hK K;refine Qby (by kernel_rfl) ?_ _;obtain ⟨V2,hVO⟩:∃ V2,V2=w10.setCell ⟨w2.heap.size,p*2,none⟩ (.slice RA' (lp.length+1) rc'):=⟨_,rfl⟩;rw [←hVO] at hIF hbF hXF hzF ⊢;clear hVO hcg hcy hfv hff ho10 hg10 hat10 hI9 hX9 hrd9 hro9 hrc9 hcx9 hwb9 hsz9 hb9 hxA hoz cwc ffc hoc hcx HIV HXV HZV HWV HLX;have HIV:=Zh hIF;have HXV:=Zh hXF;have HZV:=Zh hzF;have HWV:=Zh hbF;clear hIF hbF hXF hzF;have HLX:=Zh (show ((Qdl (toC N.ar l) (frC N.ar l) ((Qau N.ar l).take j) M).set (p*2) (lp ++[(a:Int)]))[q*2+1]?=some lq by rw [List.getElem?_set_ne (by omega)];exact HQ1.out)
   go_wp2_with fail
   obtain ⟨Ac,cc,lc,ec,cwc,ffc,hoc⟩:=HIV.out.row (u:=q*2+1) (by omega);rw [HLX.out] at ec
   cases ec
   have hXt:=HXV.out.at_ hlt2;obtain ⟨xb',xo',x',ee,hx',hcx⟩:=hXt
   cases ee
   rw [HCX.out] at hx'
   cases hx'
   have hxA:∀ g,Qac Ac=some g→g≠xb∧g≠w2.heap.size:=fun g e=>by have h1:=(hoc.lt g e).1;have:=HXB.out;omega
   have hoz:=HWV.out.size;refine Qbp 15 (S:=fun V=>V.cell? ⟨w2.heap.size,q*2+1,none⟩=some (.slice Ac lq.length cc)∧V.cell? ⟨xb,xo+j,none⟩=some (.int .i64 (a:Int))) (by kernel_rfl) ⟨cwc,hcx⟩ (fun _=>?_);refine tkF 0 82 (h:=⟨_,tv,?_⟩);simp only [pE,List.set];refine tkF 1 83 (h:=⟨_,tv,?_⟩);simp only [pE,List.set];refine tkF 2 84 (h:=⟨_,tv,?_⟩);simp only [pE,List.set];refine tkF 3 85 (h:=⟨_,tv,?_⟩);simp only [pE,List.set];refine tkF 4 86 (h:=⟨_,tv,?_⟩);simp only [pE,List.set];refine tkF 5 87 (h:=⟨_,tv,?_⟩);simp only [pE,List.set];refine tkK 6 88 (h:=⟨_,tv,?_⟩);simp only [pE,List.set];refine tkF 7 89 (h:=⟨_,tv,?_⟩);simp only [pE,List.set];refine tkF 8 90 (h:=⟨_,tv,?_⟩);simp only [pE,List.set];refine tkF 9 91 (h:=⟨_,tv,?_⟩);simp only [pE,List.set];refine tkK 10 92 (h:=⟨_,tv,?_⟩);simp only [pE,List.set];obtain ⟨w9,hw9⟩:∃ w9,w9=(V2.alloc (.cells #[.int .i64 (a:Int)] 3)).drew:=⟨_,rfl⟩;have hb9:Below V2.heap.size V2 w9:=by rw [hw9];exact ((Zr _ _).alloc (Zn _) _).drew
   have hI9:=HIV.out.below hb9;have hX9:=HXV.out.below hb9;have hrd9:Rds w9 1 (some ⟨V2.heap.size,0,none⟩) 1 (Qag [(a:Int)]):=by rw [hw9];exact ((Blk.new V2 3 (Qcd [(a:Int)])).drew).rds rfl
   have hro9:=hoc.below hb9;have hrc9:=Zc hb9 (Zn _) cwc;have hcx9:=Zc hb9 (Zn _) hcx;have hwb9:=Zb HWV.out hb9;have hsz9:w6.heap.size≤w9.heap.size:=Nat.le_trans HZV.out hb9.size;refine Qbs (i:=11) (by kernel_rfl) (by rfl) rfl (fun K hK=>?_);go_simp;rw [←hw9];refine hK.out _ _ ⟨hrc9,hcx9⟩ (fun _=>?_);clear hK K hw9;refine Qbs (i:=12) (by kernel_rfl) (by rfl) rfl (fun K hK=>?_);with_reducible refine Qam (some 94) rfl rfl (.tmp 88) (.tmp 93) 67 rfl 3 _ 1 8 Qbb underlying67 rfl (by omega) rfl rfl hro9 hrd9 (Qak _) (by omega) (by omega) hsz9 ?_
   intro RA' rc' w10 ho10 hg10 hat10
   have hcg:w10.cell? ⟨w2.heap.size,q*2+1,none⟩=some (.slice Ac lq.length cc):=by
    rw [World.cell?_of_block (hg10.block w2.heap.size (by have:=hI9.lt;omega) (fun e=>(hxA _ e.symm).2 rfl))];exact hrc9
   have hcy:w10.cell? ⟨xb,xo+j,none⟩=some (.int .i64 (a:Int)):=by
    rw [World.cell?_of_block (hg10.block xb (by have:=HXB.out;omega) (fun e=>(hxA _ e.symm).1 rfl))];exact hcx9
   obtain ⟨xf,hfv,hff⟩:=hI9.cellG (u:=q*2+1) (by omega) hg10 (hro9.ne (by omega));refine hK.out _ _ ⟨hcg,hcy⟩ (fun _=>?_);clear hK K;simp only [Act.put,List.setIfInBounds_toArray,List.set_cons_zero,List.set_cons_succ];have hIF:=hI9.push HLX.out hrc9 ho10 hg10 hat10;have hbF:Below w2.heap.size w2 (w10.setCell ⟨w2.heap.size,q*2+1,none⟩ (.slice RA' (lq.length+1) rc')):=Bel.setCell_ (hwb9.grown hg10 (by omega) (fun g e=>by have:=(hro9.lt g e).1;omega)) (by omega)
   have hXF:RdI (w10.setCell ⟨w2.heap.size,q*2+1,none⟩ (.slice RA' (lq.length+1) rc')) (some ⟨xb,xo,none⟩) K (Qau N.ar l) :=
    (RdK.grownN hX9 hg10 (fun g hg e=>(hxA g e).1 (by cases hg;rfl))).far _ (fun e=>by have:=HXB.out;have e2:xb=w2.heap.size:=Option.some.inj e;omega)
   have hzF:w6.heap.size≤(w10.setCell ⟨w2.heap.size,q*2+1,none⟩ (.slice RA' (lq.length+1) rc')).heap.size:=by have:=hg10.size;simp [World.setCell];omega
   refine tkF 13 95 (h:=⟨_,tv,?_⟩);simp only [pE,List.set];refine tkF 14 96 (h:=⟨_,tv,?_⟩);simp only [pE,List.set];refine Qcc (k:=15) (by kernel_rfl) rfl (fun K hK=>?_);go_simp;refine hK.out _ _ ?_;clear hK K;refine Qby (by kernel_rfl) ?_ _;obtain ⟨V3,hVO⟩:∃ V3,V3=w10.setCell ⟨w2.heap.size,q*2+1,none⟩ (.slice RA' (lq.length+1) rc'):=⟨_,rfl⟩;rw [←hVO] at hIF hbF hXF hzF ⊢;clear hVO hcg hcy hfv hff ho10 hg10 hat10 hI9 hX9 hrd9 hro9 hrc9 hcx9 hwb9 hsz9 hb9 hxA hoz cwc ffc hoc hcx HIV HXV HZV HWV HLX;have HIV:=Zh hIF;have HXV:=Zh hXF;have HZV:=Zh hzF;have HWV:=Zh hbF;clear hIF hbF hXF hzF;have hIF:=HIV.out;rw [←HNX.out] at hIF;have HIF:=Zh hIF;clear hIF HIV
   go_wp2_with fail
   go_roundw
   case rel=>exact ⟨HZV.out,HWV.out,j+1,by omega,by go_num,HXV.out,HIF.out⟩
   case measure=>simp [intOf];omega
end Go.Proofs.YteaoiabikjnkeaaGreatDoor
