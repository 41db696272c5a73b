/- Parts of the proof: Le3, Le4, Wp, BkQ, Mp. -/
import Derived.Test.YthoagdpakddbdaaGreatDoorK1
import Derived.Test.YthoagdpakddbdaaGreatDoorK13
import Derived.Test.YthoagdpakddbdaaGreatDoorK14
import Derived.Test.YthoagdpakddbdaaGreatDoorK15
import Derived.Maps.OwnSet
import Derived.Maps.OwnOps
namespace Go.Proofs.YthoagdpakddbdaaGreatDoor
open Go.RowKit Go.Proofs.Tryz
attribute [local go_sem ↓] Go.wp_at_zero Go.wp_at_succ
def Qkj (l:List Stp):List Tri:=l.map (fun s=>((s.1:Int),s.2.1,s.2.2))
theorem Qrb {l:List Stp}{i:Nat}{s:Stp} (h:l[i]?=some s):(Qkj l)[i]?=some ((s.1:Int),s.2.1,s.2.2):=by simp [Qkj,h]
def Qlx (W:World)(SB:Option Addr)(n:Nat)(L:Nat→List Stp):Prop:=∀ p,p<n→∃ b o A m c,SB=some ⟨b,o,none⟩∧W.cell? ⟨b,o+p,none⟩=some (.slice A m c)∧Rd3 W A m (Qkj (L p))∧m≤1000000
set_option maxHeartbeats 1000000 in
theorem Qpe (W0:World)(cs n cap:Nat)(SB:Option Addr)(L:Nat→List Stp) (hc:W0.cell? ⟨cs,0,none⟩=some (.slice SB n cap)) (h:Qlx W0 SB n L):Qoc W0 132 #[.pointer (some ⟨cs,0,none⟩)] L n:=by
 refine ⟨fun args W=>by simp [go_sem],fun W p I c1 c2 c3 c4 hp h0 hst hbl hle=>?_⟩;have hl0:=hle 0 W h0;obtain ⟨b,o,A,m,c,rfl,g1,g2,g3⟩:=h p hp;have k0:=hl0 _ _ hc;have k1:=hl0 _ _ g1;have i1:(0:Int)≤(p:Int):=by omega
 have i2:(p:Int)<(n:Int):=by omega
 have HLE:=Zh hle;have HST:=Zh hst;have HBL:=Zh hbl;have HG2:=Zh g2;have H0:=Zh h0;have hlen:(L p).length=m:=by have:=g2.1;simpa [Qkj] using this
 have HLN:=Zh hlen;clear hle hst hbl hl0 g2 h0 hlen h hc
 show Calls prog 132 #[.int .i64 p,.func (.func 137) #[] #[.pointer (some ⟨c1,0,none⟩),.pointer (some ⟨c2,0,none⟩),.pointer (some ⟨c3,0,none⟩),.pointer (some ⟨c4,0,none⟩)],.pointer (some ⟨cs,0,none⟩)] W _
 go_enter func132,ntmps132
 go_wp2_with fail
 go_loopw [12] (fun q V=>∃ i:Nat,q=.int .i64 i∧i≤m∧I i V) (fun q _=>m-(intOf q).toNat)
 case atStart=>exact ⟨0,by go_num,Nat.zero_le _,H0.out⟩
 case round =>
  obtain ⟨i,rfl,hin,hI⟩:=hrel;obtain ⟨v8,rfl⟩:∃ v8,v8=wr:=⟨_,rfl⟩;have HI:=Zh hI
  by_cases hlt:i<m
  · obtain ⟨s,hs⟩:∃ s,(L p)[i]?=some s:=⟨_,Zg (by rw [HLN.out];exact hlt)⟩
    obtain ⟨sb,so,rfl,s0,s1,s2⟩:=(HG2.out.le (HLE.out i v8 hI)).2 i _ (Qrb hs);have HS:=Zh hs;have j1:(0:Int)≤(i:Int):=by omega
    have j2:(i:Int)<(m:Int):=by omega
    clear hs hI
    go_wp2_with fail
    (refine Qac ?_;intro w2 hw2)
    have hb2:Below v8.heap.size v8 w2:=by rw [hw2];exact (Zr _ _).alloc (Zn _) _
    have HI2:=Zh (HBL.out i v8 w2 HI.out hb2);clear hw2 hb2;with_reducible refine (HST.out i s w2 HS.out HI2.out).mono ?_
    rintro e w3 ⟨rfl,hI3⟩;have HI3:=Zh hI3;clear hI3
    go_wp2_with fail
    go_roundw
    case rel=>exact ⟨i+1,by go_num,by omega,HI3.out⟩
    case measure=>simp [intOf];omega
  · obtain rfl:m=i:=by omega
    go_wp2_with fail
    go_end0
    exact ⟨rfl,by rw [HLN.out];exact HI.out⟩
def Qep (costs:List Int):Nat→List Stp→List Stp
 | _,[]=>[]
 | f,s::l=>(if costs.getD f 0<1152921504606846976∧s.2.2<1152921504606846976 then [(s.1,s.2.1,s.2.2+costs.getD f 0)] else []) ++Qep costs (f+1) l
theorem Qix (costs:List Int):∀ (a b:List Stp) (f:Nat),Qep costs f (a ++b)=Qep costs f a ++Qep costs (f+a.length) b
 | [],b,f=>by simp [Qep]
 | s::a,b,f=>by
  simp only [List.cons_append,Qep,Qix costs a b (f+1),List.length_cons,List.append_assoc];rw [show f+(a.length+1)=f+1+a.length by omega]
theorem Qlb (costs:List Int){l:List Stp}{i:Nat}{s:Stp} (h:l[i]?=some s) (f:Nat):Qep costs f (l.take (i+1))=Qep costs f (l.take i) ++(if costs.getD (f+i) 0<1152921504606846976∧s.2.2<1152921504606846976 then [(s.1,s.2.1,s.2.2+costs.getD (f+i) 0)] else []):=by
 have hi:=(Zs h).1;rw [List.take_succ_eq_append_getElem hi,(Zs h).2,Qix,List.length_take,Nat.min_eq_left (by omega)];simp [Qep]
theorem toldK_at (costs:List Int){l:List Stp}{i:Nat}{s:Stp} (h:l[i]?=some s) (f:Nat) (ht:costs.getD (f+i) 0<1152921504606846976∧s.2.2<1152921504606846976):(Qep costs f l)[(Qep costs f (l.take i)).length]?=some (s.1,s.2.1,s.2.2+costs.getD (f+i) 0):=by
 have h1:=Qlb costs h f;rw [if_pos ht] at h1;have h2:=Qix costs (l.take (i+1)) (l.drop (i+1)) f;rw [List.take_append_drop] at h2;rw [h2,h1,List.append_assoc,List.getElem?_append_right (Zn _),Nat.sub_self]
 rfl
theorem Qhi (costs:List Int):∀ {l:List Stp} {f:Nat} {t:Stp},t∈Qep costs f l↔∃ (i:Nat) (s:Stp),l[i]?=some s∧costs.getD (f+i) 0<1152921504606846976∧s.2.2<1152921504606846976∧t=(s.1,s.2.1,s.2.2+costs.getD (f+i) 0)
 | [],f,t=>by simp [Qep]
 | s::l,f,t=>by
  simp only [Qep,List.mem_append,Qhi costs (l:=l)]
  constructor
  · rintro (h|⟨i,s',h1,h2,h3,h4⟩)
    · by_cases hc:costs.getD f 0<1152921504606846976∧s.2.2<1152921504606846976
      · rw [if_pos hc] at h
        exact ⟨0,s,rfl,hc.1,hc.2,by simpa using h⟩
      · rw [if_neg hc] at h;cases h
    · refine ⟨i+1,s',by simpa using h1,?_⟩
      rw [show f+(i+1)=f+1+i by omega]
      exact ⟨h2,h3,h4⟩
  · rintro ⟨i,s',h1,h2,h3,h4⟩
    cases i with
    | zero =>
     left
     have:s=s':=by simpa using h1
     subst this;rw [Nat.add_zero] at h2 h4;rw [if_pos ⟨h2,h3⟩,h4];simp
    | succ i =>
     right
     refine ⟨i,s',by simpa using h1,?_⟩;rw [show f+1+i=f+(i+1) by omega]
     exact ⟨h2,h3,h4⟩
def Qoz (costs:List Int) (spots:List (Int×Nat)) (LL:Nat→List Stp) (p:Nat):List Stp:=match spots[p]? with|some x=>Qep costs x.1.toNat (LL x.2)|none=>[]
theorem Qrg {costs:List Int} {spots:List (Int×Nat)} {LL:Nat→List Stp} {p l:Nat} {f:Int} (h:spots[p]?=some (f,l)):Qoz costs spots LL p=Qep costs f.toNat (LL l):=by unfold Qoz;rw [h]
set_option maxHeartbeats 2000000 in
theorem Qpo (W0:World)(cs cl cc n nk N cap1 cap2 cap3:Nat)(SA LA CA:Option Addr) (spots:List (Int×Nat)) (LL:Nat→List Stp) (costs:List Int)
 (h1:W0.cell? ⟨cs,0,none⟩=some (.slice SA n cap1)) (h2:W0.cell? ⟨cl,0,none⟩=some (.slice LA nk cap2)) (h3:W0.cell? ⟨cc,0,none⟩=some (.slice CA N cap3))
 (g1:RdP W0 SA n (spots.map (fun p=>(p.1,(p.2:Int))))) (g2:Qlx W0 LA nk LL) (g3:RdI W0 CA N costs) (hN:N≤1000000000000)
 (hs:∀ (p:Nat) (f:Int) (l:Nat),spots[p]?=some (f,l)→l<nk∧(LL l=[]∨(0≤f∧f.toNat+(LL l).length≤N))) (hL:∀ (l:Nat),l<nk→∀ s∈LL l,0≤s.2.2∧s.2.2≤1152921504606846976) (hC:∀ z∈costs,0≤z∧z≤1152921504606846976) :
 Qoc W0 139 #[.pointer (some ⟨cs,0,none⟩),.pointer (some ⟨cl,0,none⟩),.pointer (some ⟨cc,0,none⟩)] (Qoz costs spots LL) n:=by
 refine ⟨fun args W=>by simp [go_sem],fun W p I c1 c2 c3 c4 hp h0 hst hbl hle=>?_⟩;have hl0:=hle 0 W h0;obtain ⟨f,l,hpf⟩:∃ f l,spots[p]?=some (f,l):=⟨(spots[p]'(by have:=g1.1;simp at this;omega)).1,(spots[p]'(by have:=g1.1;simp at this;omega)).2,by rw [Zg]⟩;obtain ⟨b,o,rfl,s1,s2⟩:=g1.2 p _ (by rw [List.getElem?_map,hpf];rfl);simp only at s1 s2;obtain ⟨hlk,hfN⟩:=hs p f l hpf;obtain ⟨lb,lo,A,m,c,rfl,q1,q2,q3⟩:=g2 l hlk;have hlen:(LL l).length=m:=by have:=q2.1;simpa [Qkj] using this
 rw [Qrg hpf] at hst ⊢;have k1:=hl0 _ _ h1;have k2:=hl0 _ _ h2;have k4:=hl0 _ _ s1;have k5:=hl0 _ _ s2;have k6:=hl0 _ _ q1;have i1:(0:Int)≤(p:Int):=by omega
 have i2:(p:Int)<(n:Int):=by have:=g1.1;simp at this;omega
 have i3:(0:Int)≤(l:Int):=by omega
 have i4:(l:Int)<(nk:Int):=by omega
 have HLE:=Zh hle;have HST:=Zh hst;have HBL:=Zh hbl;have HG:=Zh (And.intro h3 (And.intro g3 q2));have H0:=Zh h0;have HLN:=Zh hlen;have HLL:=Zh (hL l hlk);have HCC:=Zh hC;obtain ⟨F,hF⟩:∃ F,F=f.toNat:=⟨_,rfl⟩;rw [←hF] at HST ⊢
 have hfm:m=0∨(0≤f∧F+m≤N):=by
  rcases hfN with h|h
  · left;rw [←hlen,h];rfl
  · right;rw [hF,←hlen];exact h
 have HFF:=Zh hF;clear hF;clear hle hst hbl hl0 q2 h0 hlen h1 h2 h3 g1 g2 g3 hs hL hC s1 s2 q1 hpf hfN
 show Calls prog 139 #[.int .i64 p,.func (.func 137) #[] #[.pointer (some ⟨c1,0,none⟩),.pointer (some ⟨c2,0,none⟩),.pointer (some ⟨c3,0,none⟩),.pointer (some ⟨c4,0,none⟩)],.pointer (some ⟨cs,0,none⟩),.pointer (some ⟨cl,0,none⟩),.pointer (some ⟨cc,0,none⟩)] W _
 go_enter func139,ntmps139
 go_wp2_with fail
 refine wp_region_held_drew (S:=fun V=>V=W.drew) (by kernel_rfl) rfl (fun _=>?_);refine tz 0 16 ?_;refine tz 1 17 ?_;refine tz 2 18 ?_;refine tz 3 19 ?_;refine tz 4 20 ?_;refine tz 5 21 ?_;refine tz 6 22 ?_;refine tz 7 23 ?_;refine tz 8 24 ?_;refine tz 9 25 ?_;refine Zd ?_;have HI0:=Zh (HBL.out 0 W W.drew H0.out (Zr _ _).drew);clear k1 k2 k4 k5 k6
 go_wp2_with fail
 go_loopw [25] (fun q V=>∃ i:Nat,q=.int .i64 i∧i≤m∧I (Qep costs F ((LL l).take i)).length V) (fun q _=>m-(intOf q).toNat)
 case atStart=>exact ⟨0,by go_num,Nat.zero_le _,HI0.out⟩
 case round =>
  obtain ⟨i,rfl,hin,hI⟩:=hrel;obtain ⟨v8,rfl⟩:∃ v8,v8=wr:=⟨_,rfl⟩;have HI:=Zh hI
  by_cases hlt:i<m
  · have hf0:=hfm.resolve_left (by omega)
    obtain rfl:f=(F:Int):=by have:=HFF.out;omega
    have hfN:=hf0.2;obtain ⟨s,hs⟩:∃ s,(LL l)[i]?=some s:=⟨_,Zg (by rw [HLN.out];exact hlt)⟩;have hle8:=HLE.out _ v8 hI;obtain ⟨sb,so,rfl,s0,s1,s2⟩:=(HG.out.2.2.le hle8).2 i _ (Qrb hs);have k3:=hle8 _ _ HG.out.1;obtain ⟨z,hz⟩:∃ z,costs[F+i]?=some z:=⟨_,Zg (by have:=HG.out.2.1.1;omega)⟩;obtain ⟨cb,co,rfl,cz⟩:=(HG.out.2.1.le hle8).2 (F+i) z hz;have hgd:costs.getD (F+i) 0=z:=by rw [List.getD_eq_getElem?_getD,hz];rfl
    have HNT:=Zh (Qlb costs hs F);have HAT:=Zh (toldK_at costs hs F);rw [hgd] at HNT HAT;obtain ⟨z0,z1⟩:=HCC.out z (Zm hz);obtain ⟨d0,d1⟩:=HLL.out s (Zm hs);obtain ⟨to,out,d⟩:=s;simp only at s0 s1 s2 d0 d1 HNT HAT;have j1:(0:Int)≤(i:Int):=by omega
    have j2:(i:Int)<(m:Int):=by omega
    have e1:IntKind.i64.wrap ((F:Int)+(i:Int))=((F+i:Nat):Int):=by push_cast;exact IntWalk.i64_in _ (by omega)
    have e2:IntKind.i64.wrap (d+z)=d+z:=IntWalk.i64_in _ (by omega);have j3:((F+i:Nat):Int)<(N:Int):=by omega
    have j4:(0:Int)≤((F+i:Nat):Int):=by omega
    have j5:(F:Int)+(i:Int)<(N:Int):=by omega
    have kk3:=fun ob=>Zc ((Zr v8.heap.size v8).alloc (Zn _) ob) (Zn _) k3
    have kkz:=fun ob=>Zc ((Zr v8.heap.size v8).alloc (Zn _) ob) (Zn _) cz
    clear hs hI hz hgd hle8
    have hno:¬(z<1152921504606846976∧d<1152921504606846976)→I (Qep costs F ((LL l).take (i+1))).length (v8.alloc (.cells #[.int .i64 to,.int .i64 out,.int .i64 d] 241)):=fun h=>by
     rw [HNT.out,if_neg h,List.append_nil];exact HBL.out _ _ _ HI.out ((Zr _ _).alloc (Zn _) _)
    have HNO:=Zh hno;clear hno
    by_cases hz1:1152921504606846976≤z
    · go_wp2_with fail
      go_roundw
      case rel=>exact ⟨i+1,by go_num,by omega,HNO.out (by omega)⟩
      case measure=>simp [intOf];omega
    · by_cases hd1:1152921504606846976≤d
      · have hz2:z<1152921504606846976:=by omega
        go_wp2_with fail
        go_roundw
        case rel=>exact ⟨i+1,by go_num,by omega,HNO.out (by omega)⟩
        case measure=>simp [intOf];omega
      · have hz2:z<1152921504606846976:=by omega
        have hd2:d<1152921504606846976:=by omega
        have HT:=Zh (HAT.out ⟨hz2,hd2⟩);have HN:=Zh HNT.out;rw [if_pos ⟨hz2,hd2⟩] at HN
        go_wp2_with fail
        (refine Qac ?_;intro w2 hw2)
        have hb2:Below v8.heap.size v8 w2:=by rw [hw2];exact Qae
        have HI2:=Zh (HBL.out _ v8 w2 HI.out hb2);clear hw2 hb2;with_reducible refine (HST.out _ _ w2 HT.out HI2.out).mono ?_
        rintro e w3 ⟨rfl,hI3⟩;have HI3:=Zh hI3;clear hI3
        go_wp2_with fail
        go_roundw
        case rel=>exact ⟨i+1,by go_num,by omega,by rw [HN.out,List.length_append];exact HI3.out⟩
        case measure=>simp [intOf];omega
  · obtain rfl:m=i:=by omega
    go_wp2_with fail
    go_end0
    refine ⟨rfl,?_⟩;have:=HI.out;rw [List.take_of_length_le (by rw [HLN.out];exact Zn _)] at this;exact this
end Go.Proofs.YthoagdpakddbdaaGreatDoor
namespace Go.Proofs.YthoagdpakddbdaaGreatDoor
theorem Qjh (l:List Nat):∀ {a b:Nat},a≤b→(l.take a).sum≤(l.take b).sum:=by
 induction l with
 | nil=>intro a b _;simp
 | cons x t ih =>
  intro a b h
  cases a with
  | zero=>simp
  | succ a =>
   cases b with
   | zero=>omega
   | succ b =>
    have:=ih (a:=a) (b:=b) (by omega);simp only [List.take_succ_cons,List.sum_cons];omega
theorem Qez (row:List Qal){a b:Nat}(h:a≤b):Qde (row.take a)≤Qde (row.take b):=by
 unfold Qde;rw [List.map_take,List.map_take];exact Qjh _ h
theorem Qfd (gs:List (List Qal)) {a b:Nat} (h:a≤b):Qbo (gs.take a)≤Qbo (gs.take b):=by
 unfold Qbo;rw [List.map_take,List.map_take];exact Qjh _ h
theorem Qha (row:List Qal)(a:Nat):Qde (row.take a)≤Qde row:=by
 have:=Qez row (a:=a) (b:=max a row.length) (by omega);rw [List.take_of_length_le (l:=row) (i:=max a row.length) (by omega)] at this;exact this
theorem Qet (gs:List (List Qal)) (a:Nat):Qbo (gs.take a)≤Qbo gs:=by
 have:=Qfd gs (a:=a) (b:=max a gs.length) (by omega);rw [List.take_of_length_le (l:=gs) (i:=max a gs.length) (by omega)] at this;exact this
def Qhl (gs:List (List Qal)) (row:List Qal) (i c:Nat) (x:Qal) (a b:Nat):Nat:=Qbo (gs.take i)+Qde (row.take c)+(a*x.2.length+b)
theorem Qpa {gs:List (List Qal)} {row:List Qal} {i c a b:Nat} {x:Qal} (hx:row[c]?=some x) (ha:a<x.1.length) (hb:b<x.2.length):Qhl gs row i c x a b<Qbo (gs.take i)+Qde (row.take (c+1)):=by
 unfold Qhl;rw [Qcy hx]
 have:a*x.2.length+b<szG x:=by
  unfold szG;have h1:(a+1)*x.2.length≤x.1.length*x.2.length:=Nat.mul_le_mul_right _ ha;rw [Nat.add_mul,Nat.one_mul] at h1;omega
 omega
theorem Qit {gs:List (List Qal)} {row:List Qal} {i c a b:Nat} {x:Qal} (hr:gs[i]?=some row) (hx:row[c]?=some x) (ha:a<x.1.length) (hb:b<x.2.length):Qhl gs row i c x a b<Qbo (gs.take (i+1)):=by
 have h:=Qpa (gs:=gs) (i:=i) hx ha hb;have h2:=Qha row (c+1);rw [Qdc hr];omega
end Go.Proofs.YthoagdpakddbdaaGreatDoor
namespace Go.Proofs.YthoagdpakddbdaaGreatDoor
open Go.RowKit Go.Proofs.Tryz
def frst (gs:List (List Qal)) (row:List Qal) (i q:Nat) (y:Qal) (k:Nat):Int:=if y.2.length=0 then -1 else ((Qhl gs row i q y k 0:Nat):Int)
structure SpI (N:Qaj) (lb:List Int) (gs:List (List Qal)) (i:Nat) (kq:List Nat) (Done:Nat→Nat→Prop) (pl:List Nat) (spots:List (Int×Nat)) (f:Nat→Option Nat):Prop where
 len:spots.length=pl.length
 snd:∀ (p a:Nat),pl[p]?=some a→∃ t q y k,kq[t]?=some q∧(gateRow N.ar lb)[q]?=some y∧y.1[k]?=some (a:Int)∧Done t k∧spots[p]?=some (frst gs (gateRow N.ar lb) i q y k,t)
 all:∀ (t q:Nat) (y:Qal) (k a:Nat),Done t k→kq[t]?=some q→(gateRow N.ar lb)[q]?=some y→y.1[k]?=some (a:Int)→∃ p:Nat,pl[p]?=some a
 map:∀ b p,f b=some p↔pl[p]?=some b
section
variable {N:Qaj} {lb:List Int} {gs:List (List Qal)} {i:Nat} {kq:List Nat} {Done:Nat→Nat→Prop} {pl:List Nat} {spots:List (Int×Nat)} {f:Nat→Option Nat}
theorem SpI.new (N:Qaj)(lb:List Int) (gs:List (List Qal)) (i:Nat) (kq:List Nat):SpI N lb gs i kq (fun _ _=>False) [] [] (fun _=>none) :=
 ⟨rfl,fun p a h=>by simp at h,fun t q y k a h=>h.elim,fun b p=>by simp⟩
theorem SpI.gone {D':Nat→Nat→Prop}(h:SpI N lb gs i kq Done pl spots f)(hd:∀ t k,Done t k→D' t k) (hd':∀ (t q:Nat) (y:Qal) (k a:Nat),D' t k→kq[t]?=some q→(gateRow N.ar lb)[q]?=some y→y.1[k]?=some (a:Int)→Done t k):SpI N lb gs i kq D' pl spots f :=
 ⟨h.len,fun p a hp=>by
  obtain ⟨t,q,y,k,h1,h2,h3,h4,h5⟩:=h.snd p a hp;exact ⟨t,q,y,k,h1,h2,h3,hd t k h4,h5⟩,fun t q y k a h1 h2 h3 h4=>h.all t q y k a (hd' t q y k a h1 h2 h3 h4) h2 h3 h4,h.map⟩
theorem SpI.free (h:SpI N lb gs i kq Done pl spots f)(hnd:kq.Nodup){t q k a:Nat}{y:Qal} (h1:kq[t]?=some q) (h2:(gateRow N.ar lb)[q]?=some y) (h3:y.1[k]?=some (a:Int)) (hno:¬Done t k):f a=none:=by
 cases hf:f a with
 | none=>rfl
 | some p =>
  obtain ⟨t',q',y',k',g1,g2,g3,g4,_⟩:=h.snd p a ((h.map a p).1 hf);obtain ⟨z,hz,_,e1⟩:=(Qds h2).1 (Zm h3);obtain ⟨z',hz',_,e2⟩:=(Qds g2).1 (Zm g3);rw [hz] at hz'
  cases hz'
  have hq:q'=q:=by omega
  subst hq;rw [h2] at g2
  cases g2
  have ht:t'=t:=(List.getElem?_inj (Zs g1).1 hnd).1 (g1.trans h1.symm);subst ht;have hk:=Qmf (Qhz h2) g3 h3;subst hk;exact absurd g4 hno
theorem SpI.push (h:SpI N lb gs i kq Done pl spots f){t q k a:Nat}{y:Qal} (h1:kq[t]?=some q) (h2:(gateRow N.ar lb)[q]?=some y) (h3:y.1[k]?=some (a:Int)) (hf:f a=none) :
 SpI N lb gs i kq (fun t' k'=>Done t' k'∨(t'=t∧k'=k)) (pl ++[a]) (spots ++[(frst gs (gateRow N.ar lb) i q y k,t)]) (fun b=>if b=a then some pl.length else f b):=by
 have hl:=h.len;refine ⟨by simp [hl],fun p b hp=>?_,fun t' q' y' k' b hd e1 e2 e3=>?_,fun b p=>?_⟩
 · rcases Nat.lt_or_ge p pl.length with hlt|hge
   · rw [List.getElem?_append_left hlt] at hp
     obtain ⟨t',q',y',k',g1,g2,g3,g4,g5⟩:=h.snd p b hp;exact ⟨t',q',y',k',g1,g2,g3,.inl g4,by rw [List.getElem?_append_left (by omega)];exact g5⟩
   · rw [List.getElem?_append_right hge] at hp
     have h0:p-pl.length=0:=by have:=(Zs hp).1;simpa using this
     rw [h0] at hp
     cases hp
     refine ⟨t,q,y,k,h1,h2,h3,.inr ⟨rfl,rfl⟩,?_⟩;rw [List.getElem?_append_right (by omega),show p-spots.length=0 by omega]
     rfl
 · rcases hd with hd|⟨rfl,rfl⟩
   · obtain ⟨p,hp⟩:=h.all t' q' y' k' b hd e1 e2 e3
     exact ⟨p,by rw [List.getElem?_append_left (Zs hp).1];exact hp⟩
   · rw [h1] at e1
     cases e1
     rw [h2] at e2
     cases e2
     rw [h3] at e3;have:a=b:=by have:=Option.some.inj e3;omega
     subst this;exact ⟨pl.length,by rw [List.getElem?_append_right (Zn _),Nat.sub_self];rfl⟩
 · by_cases e:b=a
   · subst e
     simp only [if_pos]
     constructor
     · intro e2;injection e2 with e2;subst e2;rw [List.getElem?_append_right (Zn _),Nat.sub_self];rfl
     · intro e2
       rcases Nat.lt_or_ge p pl.length with hlt|hge
       · rw [List.getElem?_append_left hlt] at e2
         have:=(h.map b p).2 e2;rw [hf] at this
         cases this
       · rw [List.getElem?_append_right hge] at e2
         have h0:p-pl.length=0:=by have:=(Zs e2).1;simpa using this
         rw [show p=pl.length by omega]
   · simp only [if_neg e]
     rw [h.map]
     rcases Nat.lt_or_ge p pl.length with hlt|hge
     · rw [List.getElem?_append_left hlt]
     · rw [List.getElem?_append_right hge,List.getElem?_eq_none hge]
       constructor
       · intro h;cases h
       · intro h
         have h0:p-pl.length=0:=by have:=(Zs h).1;simpa using this
         rw [h0] at h
         injection h with h
         exact absurd h.symm e
theorem SpI.nodup (h:SpI N lb gs i kq Done pl spots f):pl.Nodup:=by
 rw [List.Nodup,List.pairwise_iff_getElem];intro i j hi hj hij e;have h1:=(h.map (pl[i]) i).2 (Zg hi);have h2:=(h.map (pl[i]) j).2 (by rw [Zg hj,e]);rw [h1] at h2
 injection h2 with h2
 omega
theorem SpI.le (h:SpI N lb gs i kq Done pl spots f):pl.length≤N.ar.length :=
 Qik N.ar.length pl h.nodup (fun a ha=>by
  obtain ⟨p,hp⟩:=List.getElem?_of_mem ha;obtain ⟨t,q,y,k,_,h2,h3,_,_⟩:=h.snd p a hp;obtain ⟨z,hz,_⟩:=(Qds h2).1 (Zm h3);exact (Zs hz).1)
end
def Qlk (N:Qaj)(x:Qal)(f:Nat→Option Nat)(m:Nat):Stp :=
 if 0≤plI x.2 (m:Int) then (0,plI x.2 (m:Int),0) else ((f m).getD 0,plI x.2 (m:Int),if (f m).isSome then wV N m else 1152921504606846976)
structure LstI (N:Qaj) (lb:List Int) (x:Qal) (kq:List Nat) (f:Nat→Option Nat) (LL:Nat→List Stp):Prop where
 len:∀ (t q:Nat) (y:Qal),kq[t]?=some q→(gateRow N.ar lb)[q]?=some y→(LL t).length=y.2.length
 at_:∀ (t q:Nat) (y:Qal) (j m:Nat),kq[t]?=some q→(gateRow N.ar lb)[q]?=some y→y.2[j]?=some (m:Int)→(LL t)[j]?=some (Qlk N x f m)
theorem Qfi {N:Qaj}{l:List Int}{c:Nat}{x:Qal} (hx:(gateRow N.ar l)[c]?=some x) {j:Nat} {z:Int} (h:x.2[j]?=some z):∃ m:Nat,z=(m:Int):=by
 obtain ⟨⟨a,t,e,_⟩,_⟩:=(fun h:z∈Qax N.ar l∧_=>(⟨Qfa.1 h.1,h.2⟩:_∧_)) ((Qoo hx).1 (Zm h));exact ⟨a,e⟩
theorem Qgs {N:Qaj}{l:List Int}{c:Nat}{x:Qal} (hx:(gateRow N.ar l)[c]?=some x) {j:Nat} {z:Int} (h:x.1[j]?=some z):∃ m:Nat,z=(m:Int):=by
 obtain ⟨⟨a,t,e,_⟩,_⟩:=(fun h:z∈Qax N.ar l∧_=>(⟨Qfa.1 h.1,h.2⟩:_∧_)) ((Qjv hx).1 (Zm h));exact ⟨a,e⟩
theorem Qqr.of {N:Qaj}(hok:Qas N) {ls:List (List Int)} {l lb:List Int} {i c:Nat} {x:Qal} {kq pl:List Nat} {spots:List (Int×Nat)} {f:Nat→Option Nat} {LL:Nat→List Stp} {costs:List Int} (hP:Qcl N.vs.length ls) (hl:ls[i+1]?=some l) (hb:ls[i]?=some lb)
 (hx:(gateRow N.ar l)[c]?=some x) (hkq:nis kq=Qcq l lb (c:Int) N.vs.length) (hS:SpI N lb (gatesOf N.ar ls) i kq (fun _ _=>True) pl spots f) (hL:LstI N lb x kq f LL)
 (hE:∀ (q:Nat) (y:Qal) (a b s t:Nat),(gateRow N.ar lb)[q]?=some y→y.1[a]?=some (s:Int)→y.2[b]?=some (t:Int)→Qhk N (Qdz lb q) s t (costs.getD (Qhl (gatesOf N.ar ls) (gateRow N.ar lb) i q y a b) 0)) :
 Qqr N l lb c x pl (Qoz costs spots LL):=by
 have hLv:=hP.lvl l (Zm hl);have hBv:=hP.lvl lb (Zm hb);have hmem:∀ q:Nat,q∈kq↔∃ v:Nat,l[v]?=some (c:Int)∧lb[v]?=some (q:Int):=fun q=>by rw [Qpc hkq,Qhu hLv.len hBv.len]
 have hnest:=hP.nest i lb l hb hl
 have hin:∀ (q a:Nat) (z:Tri),q∈kq→N.ar[a]?=some z→Qaf lb z.2.1=(q:Int)→Qaf l z.2.1=c:=fun q a z hq hz e=>by
  obtain ⟨v,h1,h2⟩:=(hmem q).1 hq;have hvn:=(Zs h1).1;rw [hLv.len] at hvn;have ho:=hok.arcs z (Zm hz);have o0:=ho.g0;have o1:=ho.g1;obtain ⟨u,hu⟩:∃ u:Nat,z.2.1=(u:Int):=⟨z.2.1.toNat,by omega⟩;rw [hu] at e ⊢;have e2:=Qbr h2;have e3:=Qbr h1
  apply Classical.byContradiction
  intro hne;exact Qge (u:=u) (v:=v) hnest hLv.len hBv.len (by omega) hvn (by rw [e3];exact hne) (by rw [e,e2])
 have hat:∀ a∈pl,Qeb N l lb c a:=fun a ha=>by
  obtain ⟨p,hp⟩:=List.getElem?_of_mem ha;obtain ⟨t,q,y,k,h1,h2,h3,_,_⟩:=hS.snd p a hp;obtain ⟨z,hz,k1,k2⟩:=(Qds h2).1 (Zm h3);exact ⟨z,hz,by rw [k2];exact k1,hin q a z (Zm h1) hz k2⟩
 have hall:∀ a,Qeb N l lb c a→∃ p:Nat,pl[p]?=some a:=fun a ⟨z,hz,k1,k2⟩=>by
  have ho:=hok.arcs z (Zm hz);have o0:=ho.g0;have o1:=ho.g1;obtain ⟨u,hu⟩:∃ u:Nat,z.2.1=(u:Int):=⟨z.2.1.toNat,by omega⟩;have e1:=Qcu (l:=lb) (v:=u) (by rw [hBv.len];omega);have e2:=Qcu (l:=l) (v:=u) (by rw [hLv.len];omega);obtain ⟨q,hq,y,hy⟩:=Qhq (ar:=N.ar) hBv (Zm e1);rw [hu] at k1 k2;rw [k2] at e2;rw [hq] at e1;obtain ⟨t,ht⟩:=List.getElem?_of_mem ((hmem q).2 ⟨u,e2,e1⟩);have ha:(a:Int)∈y.1:=(Qds hy).2 ⟨z,hz,by rw [←hq];exact k1,by rw [hu];exact hq⟩;obtain ⟨k,hk⟩:=List.getElem?_of_mem ha;exact hS.all t q y k a trivial ht hy hk
 have hrawAt:∀ (p a:Nat),pl[p]?=some a→∃ (t q:Nat) (y:Qal) (k:Nat) (z:Tri),kq[t]?=some q∧(gateRow N.ar lb)[q]?=some y∧y.1[k]?=some (a:Int)∧N.ar[a]?=some z∧Qaf lb z.1≠Qaf lb z.2.1∧Qaf lb z.2.1=(q:Int)∧Qoz costs spots LL p=Qep costs (frst (gatesOf N.ar ls) (gateRow N.ar lb) i q y k).toNat (LL t):=fun p a hp=>by
  obtain ⟨t,q,y,k,h1,h2,h3,_,h5⟩:=hS.snd p a hp;obtain ⟨z,hz,k1,k2⟩:=(Qds h2).1 (Zm h3);exact ⟨t,q,y,k,z,h1,h2,h3,hz,by rw [k2];exact k1,k2,Qrg h5⟩
 have hfr:∀ (q:Nat) (y:Qal) (k j:Nat) (z:Int),y.2[j]?=some z→(frst (gatesOf N.ar ls) (gateRow N.ar lb) i q y k).toNat+j=Qhl (gatesOf N.ar ls) (gateRow N.ar lb) i q y k j:=fun q y k j z hz=>by
  have hj:=(Zs hz).1;unfold frst;rw [if_neg (by omega),Int.toNat_natCast];unfold Qhl;omega
 have hsome:∀ (q m:Nat) (z:Tri),q∈kq→N.ar[m]?=some z→Qaf lb z.1=(q:Int)→Qaf lb z.2.1≠(q:Int)→(m:Int) ∉ x.2→∃ p,f m=some p:=fun q m z hq hz e1 e2 hm=>by
  have hto:Qaf l z.2.1=c:=by
   apply Classical.byContradiction
   intro hne;refine hm ((Qcc hx).2 ⟨z,hz,?_,hne⟩);obtain ⟨v,g1,g2⟩:=(hmem q).1 hq;have hvn:=(Zs g1).1;rw [hLv.len] at hvn;have ho:=hok.arcs z (Zm hz);have o0:=ho.f0;have o1:=ho.f1;obtain ⟨u,hu⟩:∃ u:Nat,z.1=(u:Int):=⟨z.1.toNat,by omega⟩;rw [hu] at e1 ⊢;have e3:=Qbr g2;have e4:=Qbr g1
   apply Classical.byContradiction
   intro hne2;exact Qge (u:=u) (v:=v) hnest hLv.len hBv.len (by omega) hvn (by rw [e4];exact hne2) (by rw [e1,e3])
  obtain ⟨p,hp⟩:=hall m ⟨z,hz,fun e=>e2 (by rw [←e];exact e1),hto⟩;exact ⟨p,(hS.map m p).2 hp⟩
 refine ⟨hat,hall,hS.nodup,fun p a hp s hs=>?_,fun p a m v k hp hK hv hk=>?_,fun p a m v hp hK hv hm hw=>?_⟩
 · obtain ⟨t,q,y,k,z,h1,h2,h3,hz,k1,k2,hL'⟩:=hrawAt p a hp
   rw [hL'] at hs;obtain ⟨j,r,hj,hc1,hc2,rfl⟩:=(Qhi costs).1 hs;obtain ⟨zm,hzm⟩:∃ zm,y.2[j]?=some zm:=⟨_,Zg (by rw [←hL.len t q y h1 h2];exact (Zs hj).1)⟩;obtain ⟨m,rfl⟩:=Qfi h2 hzm;have hr:=hL.at_ t q y j m h1 h2 hzm;rw [hj] at hr
   cases hr
   rw [hfr q y k j _ hzm] at hc1 ⊢;have hEE:=hE q y k j a m h2 h3 hzm;obtain ⟨zz,hzz,j1,j2⟩:=(Qcc h2).1 (Zm hzm);refine ⟨m,_,⟨z,zz,hz,hzz,k1,by rw [k2];exact j1,by rw [k2];exact j2,by rw [k2];exact hEE⟩,by omega,?_⟩
   by_cases hm:(m:Int)∈x.2
   · obtain ⟨k',e1,e2⟩:=Qlo hm
     left
     refine ⟨k',e2,?_,?_⟩
     · unfold Qlk;rw [e1,if_pos (by omega)]
     · unfold Qlk;rw [e1,if_pos (by omega)];simp
   · right
     obtain ⟨p',hp'⟩:=hsome q m zz (Zm h1) hzz j1 j2 hm;have e0:Qlk N x f m=(p',-1,wV N m):=by unfold Qlk;rw [Qcx hm,if_neg (by omega),hp'];rfl
     rw [e0] at hc2 ⊢;exact ⟨hm,by simp only at hc2;omega,(by decide:(-1:Int)<0),(hS.map m p').1 hp',by simp only;omega⟩
 · obtain ⟨t,q,y,k',z,h1,h2,h3,hz,k1,k2,hL'⟩:=hrawAt p a hp
   obtain ⟨z',zm,hz',hzm,j1,j2,j3,j4⟩:=hK;rw [hz] at hz'
   cases hz'
   rw [k2] at j2 j3 j4;obtain ⟨j,hj⟩:=List.getElem?_of_mem ((Qcc h2).2 ⟨zm,hzm,j2,j3⟩);have hEE:=hE q y k' j a m h2 h3 hj;have hv':=Lst.uniq j4 hEE;have hb:=j4.bd hok;have e0:Qlk N x f m=(0,(k:Int),0):=by unfold Qlk;rw [Qfm (Qff hx) hk,if_pos (by omega)]
   refine ⟨(0,(k:Int),v),?_,rfl,rfl⟩;rw [hL'];refine (Qhi costs).2 ⟨j,_,hL.at_ t q y j m h1 h2 hj,?_,?_,?_⟩
   · rw [hfr q y k' j _ hj,←hv'];omega
   · rw [e0];simp only;omega
   · rw [e0,hfr q y k' j _ hj,←hv'];simp
 · obtain ⟨t,q,y,k',z,h1,h2,h3,hz,k1,k2,hL'⟩:=hrawAt p a hp
   obtain ⟨z',zm,hz',hzm,j1,j2,j3,j4⟩:=hK;rw [hz] at hz'
   cases hz'
   rw [k2] at j2 j3 j4;obtain ⟨j,hj⟩:=List.getElem?_of_mem ((Qcc h2).2 ⟨zm,hzm,j2,j3⟩);have hEE:=hE q y k' j a m h2 h3 hj;have hv':=Lst.uniq j4 hEE;have hb:=j4.bd hok;obtain ⟨p',hp'⟩:=hsome q m zm (Zm h1) hzm j2 j3 hm;have e0:Qlk N x f m=(p',-1,wV N m):=by unfold Qlk;rw [Qcx hm,if_neg (by omega),hp'];rfl
   have hwb:=(Qhy (hok.arcs zm (Zm hzm)).w).resolve_left (by rw [←(Qcp hzm).2.2];exact hw);rw [←(Qcp hzm).2.2] at hwb;refine ⟨(p',-1,wV N m+v),?_,(by decide:(-1:Int)<0),(hS.map m p').1 hp',by simp only;omega⟩;rw [hL'];refine (Qhi costs).2 ⟨j,_,hL.at_ t q y j m h1 h2 hj,?_,?_,?_⟩
   · rw [hfr q y k' j _ hj,←hv'];omega
   · rw [e0];simp only;omega
   · rw [e0,hfr q y k' j _ hj,←hv']
end Go.Proofs.YthoagdpakddbdaaGreatDoor
namespace Go.Proofs.YthoagdpakddbdaaGreatDoor
open Go.RowKit Go.Maps Go.Proofs.Tryz
theorem Qpp:Keyed prog 3:=int_keyed underlying3
theorem Qrd (w:World):(zeroValue 3).run prog w=.ok (.int .i64 0) w:=by kernel_rfl
def MpI (W:World)(b n:Nat)(f:Nat→Option Nat):Prop :=
 ∃ D:DataW Unit,W.ownsMap prog 3 (plainElem prog 3) b n D∧IsMap D∧∀ k:Nat,k≤1000000000000→Maps.has D (.int .i64 k)=(f k).isSome∧∀ v,f k=some v→∀ z,D.atKey (.int .i64 k) z=.lit (.int .i64 v)
theorem MpI.new (w:World):MpI (w.alloc (.map #[] 0)) w.heap.size 0 (fun _=>none) :=
 ⟨.map [],World.ownsMap_made _ _ _ _,isMap_empty,fun k _=>⟨rfl,fun v h=>by cases h⟩⟩
theorem MpI.new' (w:World){g:Nat}(h:g=w.heap.size):MpI (w.alloc (.map #[] 0)) g 0 (fun _=>none):=by subst h;exact MpI.new w
theorem MpI.lt {W:World}{b n:Nat}{f:Nat→Option Nat}(h:MpI W b n f):b<W.heap.size:=by
 obtain ⟨D,h1,_⟩:=h;exact h1.lt
theorem MpI.grown {W W':World}{b n:Nat}{f:Nat→Option Nat}{r:Option Nat}(h:MpI W b n f)(hg:W.grownBy W' r)(hr:r≠some b):MpI W' b n f:=by
 obtain ⟨D,h1,h2⟩:=h;exact ⟨D,h1.kept hg (fun e=>hr e.symm),h2⟩
theorem MpI.below {W W':World}{b n:Nat}{f:Nat→Option Nat}(h:MpI W b n f)(hb:Below W.heap.size W W'):MpI W' b n f:=h.grown ⟨hb.os,hb.tape,hb.output,hb.size,fun k hk _=>hb.block k hk⟩ (r:=none) (by simp)
theorem MpI.set {W:World}{b n g i:Nat}{f:Nat→Option Nat}(h:MpI W b n f)(hg:g≠b)(v:Value):MpI (W.setCell ⟨g,i,none⟩ v) b n f:=h.grown (Qaa _ _ _ _) (fun e=>hg (by injection e))
theorem lit_ne {k q:Nat}(h:q≠k):(Lit.int .i64 (q:Int))≠Lit.int .i64 (k:Int):=fun e=>by
 injection e with _ e
 exact h (by omega)
theorem Qqf {k:Nat}(hk:k≤1000000000000):keyOf prog 3 (.int .i64 (k:Int))=some (.int .i64 (k:Int)):=keyOf_int_mk underlying3 (WalkArith.wf_i64 (by omega))
section
variable {w:World} {ops:Array Oper} {rest:List Oper} {o:Oper} {a:Act} {Q:Exit→Act→World→Prop} {b n:Nat} {f:Nat→Option Nat}
theorem Qjd (hg:o.guard=none)(m x v:Operand)(hop:o.op=Op.mapUpdate 235 m x v)(k u:Nat) (hm:a.eval m=.map (some b)) (h:MpI w b n f) (hn:n≤1000000000) (hx:a.eval x=.int .i64 k) (hv:a.eval v=.int .i64 u) (hk:k≤1000000000000) (hu:u≤1000000000000)
 (hK:∀ w',MpI w' b (n+1) (fun q=>if q=k then some u else f q)→w.grownBy w' (some b)→wpList prog ops Q rest (a.put o.dst undef) w'):wpList prog ops Q (o::rest) a w:=by
 obtain ⟨D,h1,h2,h3⟩:=h;refine wpList_mapUpdate_own w hg m x v 235 hop 3 3 Qpp underlying235 _ b n D hm h1 (by unfold maxLen;omega) _ _ _ hx hv (Qqf hk) _ [] (plainElem_int underlying3 (WalkArith.wf_i64 (by omega))) (fun w' g1 g2=>hK w' ⟨_,g1,h2.put _ _,fun q hq=>?_⟩ g2);have hkl:WideAt.IsKeyLit (Lit.int .i64 (k:Int)):=by simp [WideAt.IsKeyLit]
 by_cases e:q=k
 · subst e
   simp only [if_pos];exact ⟨has_put_same h2 hkl _,fun v e z=>by cases e;exact atKey_put_same h2 hkl _ _⟩
 · simp only [if_neg e]
   refine ⟨(has_put_other (lit_ne e) _).trans (h3 q hq).1,fun v e2 z=>(atKey_put_other (lit_ne e) _ _).trans ((h3 q hq).2 v e2 z)⟩
theorem Qil (hg:o.guard=none)(m x:Operand)(hop:o.op=Op.lookup 235 m x true)(k:Nat) (hm:a.eval m=.map (some b)) (h:MpI w b n f) (hx:a.eval x=.int .i64 k) (hk:k≤1000000000000)
 (hK:wpList prog ops Q rest (a.put o.dst (.tuple #[.int .i64 (((f k).getD 0:Nat):Int),.bool (f k).isSome])) w):wpList prog ops Q (o::rest) a w:=by
 obtain ⟨D,h1,h2,h3⟩:=h;refine wpList_lookup_own_ok_int w hg m x 235 hop 3 3 .i64 Qpp underlying235 underlying3 (Qrd w) b n D hm h1 _ _ hx (Qqf hk) (fun c hc _=>?_);obtain ⟨g1,g2⟩:=h3 k hk;rw [g1]
 have:c=(((f k).getD 0:Nat):Int):=by
  cases hf:f k with
  | none =>
   rw [hf] at g1;rw [atKey_of_not_has g1] at hc
   injection hc with hc
   injection hc with _ hc
   exact hc.symm
  | some v =>
   rw [g2 v hf] at hc
   injection hc with hc
   injection hc with _ hc
   exact hc.symm
 rw [this];exact hK
theorem wpMap_at (hg:o.guard=none)(m x:Operand)(hop:o.op=Op.lookup 235 m x false)(k v:Nat) (hm:a.eval m=.map (some b)) (h:MpI w b n f) (hx:a.eval x=.int .i64 k) (hk:k≤1000000000000) (hf:f k=some v)
 (hK:wpList prog ops Q rest (a.put o.dst (.int .i64 (v:Int))) w):wpList prog ops Q (o::rest) a w:=by
 obtain ⟨D,h1,h2,h3⟩:=h;refine wpList_lookup_own_int w hg m x 235 hop 3 3 .i64 Qpp underlying235 underlying3 (Qrd w) b n D hm h1 _ _ hx (Qqf hk) (fun c hc _=>?_);rw [(h3 k hk).2 v hf] at hc
 injection hc with hc
 injection hc with _ hc
 rw [←hc];exact hK
end
end Go.Proofs.YthoagdpakddbdaaGreatDoor
