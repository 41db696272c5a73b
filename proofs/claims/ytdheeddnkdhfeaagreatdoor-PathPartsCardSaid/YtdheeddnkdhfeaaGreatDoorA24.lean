/- Parts of the proof: AsI, Yo, AsK, Pd. -/
import Derived.Test.YtdheeddnkdhfeaaGreatDoorA23
namespace Go.Proofs.YtdheeddnkdhfeaaGreatDoor
open Go.RowKit Go.Proofs.Tryz
attribute [local go_sem ↓] Go.wp_at_zero Go.wp_at_succ
def Qeo (N:Qam) (ls:List (List Int)) (lv a:Int):Option (Int×Int) :=
 if 1≤lv∧lv≤(ls.length:Int)∧0≤a∧a<(N.ar.length:Int) then
  (if Qaa (ls.getD (lv-1).toNat []) (N.ar.getD a.toNat (0,0,0)).1=Qaa (ls.getD (lv-1).toNat []) (N.ar.getD a.toNat (0,0,0)).2.1 then none
   else some (Qaa (ls.getD (lv-1).toNat []) (N.ar.getD a.toNat (0,0,0)).1,Qaa (ls.getD (lv-1).toNat []) (N.ar.getD a.toNat (0,0,0)).2.1)) else none
def enF (N:Qam) (ls:List (List Int)) (lv a:Int):Int:=match Qeo N ls lv a with|none=>-1|some p=>p.2
def leF (N:Qam) (ls:List (List Int)) (lv a:Int):Int:=match Qeo N ls lv a with|none=>-1|some p=>p.1
section
variable {N:Qam} {ls:List (List Int)}
theorem Qfd {j a:Nat}{l:List Int}{y:Tri} (hl:ls[j]?=some l) (hy:N.ar[a]?=some y):Qeo N ls ((j:Int)+1) (a:Int)=if Qaa l y.1=Qaa l y.2.1 then none else some (Qaa l y.1,Qaa l y.2.1):=by
 have h1:=(Zs hl).1;have h2:=(Zs hy).1;unfold Qeo;rw [if_pos ⟨by omega,by omega,by omega,by omega⟩];have e1:ls.getD ((j:Int)+1-1).toNat []=l:=by rw [show ((j:Int)+1-1).toNat=j by omega,Ya,hl];rfl
 have e2:N.ar.getD ((a:Int)).toNat (0,0,0)=y:=by rw [Yl,Ya,hy];rfl
 rw [e1,e2]
theorem Qii {lv a:Int} (h:¬(1≤lv∧lv≤(ls.length:Int)∧0≤a∧a<(N.ar.length:Int))):Qeo N ls lv a=none:=by
 unfold Qeo;rw [if_neg h]
theorem Qgw {lv a:Int}{p:Int×Int}(h:Qeo N ls lv a=some p):∃ (j b:Nat) (l:List Int) (y:Tri),lv=(j:Int)+1∧a=(b:Int)∧ls[j]?=some l∧N.ar[b]?=some y∧Qaa l y.1≠Qaa l y.2.1∧p=(Qaa l y.1,Qaa l y.2.1):=by
 by_cases h1:1≤lv∧lv≤(ls.length:Int)∧0≤a∧a<(N.ar.length:Int)
 · obtain ⟨j,rfl⟩:∃ j:Nat,lv=(j:Int)+1:=⟨(lv-1).toNat,by omega⟩
   obtain ⟨b,rfl⟩:∃ b:Nat,a=(b:Int):=⟨a.toNat,by omega⟩;obtain ⟨l,hl⟩:∃ l,ls[j]?=some l:=⟨_,Zg (by omega)⟩;obtain ⟨y,hy⟩:∃ y,N.ar[b]?=some y:=⟨_,Zg (by omega)⟩;rw [Qfd hl hy] at h
   split at h
   · cases h
   · rename_i hne
     exact ⟨j,b,l,y,rfl,rfl,hl,hy,hne,(Yv h).symm⟩
 · rw [Qii h1] at h
   cases h
theorem leap_of {lv f t:Int}(h0:0≤enF N ls lv f)(h1:leF N ls lv t=enF N ls lv f):∃ (a b j:Nat) (l:List Int) (y z:Tri),f=(a:Int)∧t=(b:Int)∧lv=(j:Int)+1∧ls[j]?=some l∧N.ar[a]?=some y∧N.ar[b]?=some z∧Qaa l y.1≠Qaa l y.2.1∧Qaa l z.1=Qaa l y.2.1∧Qaa l z.2.1≠Qaa l y.2.1∧enF N ls lv f=Qaa l y.2.1:=by
 cases hc:Qeo N ls lv f with
 | none=>unfold enF at h0;rw [hc] at h0;simp at h0
 | some p =>
  obtain ⟨j,a,l,y,rfl,rfl,hl,hy,hne,rfl⟩:=Qgw hc;have e1:enF N ls ((j:Int)+1) (a:Int)=Qaa l y.2.1:=by unfold enF;rw [hc]
  cases hd:Qeo N ls ((j:Int)+1) t with
  | none=>rw [e1] at h1 h0;unfold leF at h1;rw [hd] at h1;simp only at h1;omega
  | some q =>
   obtain ⟨j',b,l',z,e2,rfl,hl',hz,hne',rfl⟩:=Qgw hd;obtain rfl:j=j':=by omega
   rw [hl] at hl'
   cases hl'
   have e3:leF N ls ((j:Int)+1) (b:Int)=Qaa l z.1:=by unfold leF;rw [hd]
   rw [e1,e3] at h1;exact ⟨a,b,j,l,y,z,rfl,rfl,rfl,hl,hy,hz,hne,h1,fun e=>hne' (by rw [h1,e]),e1⟩
end
theorem gFrom_no (g:Nat)(N:Qam)(a:Int)(w:World)(h:Qes w g N) (ha:¬(0≤a∧a<(N.ar.length:Int))):Calls prog 143 #[.pointer (some ⟨g,0,none⟩),.int .i64 a] w fun e w'=>e=.returned (.int .i64 (-1))∧w=w':=by
 have HA:=Zh (Qym g N a w h ha);clear h ha
 go_enter func143,ntmps143
 exact Kcq
theorem gTo_no (g:Nat)(N:Qam)(a:Int)(w:World)(h:Qes w g N) (ha:¬(0≤a∧a<(N.ar.length:Int))):Calls prog 144 #[.pointer (some ⟨g,0,none⟩),.int .i64 a] w fun e w'=>e=.returned (.int .i64 (-1))∧w=w':=by
 have HA:=Zh (Qym g N a w h ha);clear h ha
 go_enter func144,ntmps144
 exact Kcq
def Qrk (N:Qam) (ls:List (List Int)) (lv a:Int):Ending:=.returned (.tuple #[.int .i64 (leF N ls lv a),.int .i64 (enF N ls lv a)])
set_option maxHeartbeats 2000000 in
theorem Qnx (w:World)(g:Nat)(N:Qam) (ls:List (List Int)) (Q:Option Addr) (L cq:Nat) (lv a:Int) (hg:Qes w g N) (hq:RdT w Q L ls) (hok:Qap N) (hP:Qaw N.vs.length ls) :
 Calls prog 115 #[.pointer (some ⟨g,0,none⟩),.agg #[.slice Q L cq],.int .i64 lv,.int .i64 a] w fun e w'=>e=Qrk N ls lv a∧Below w.heap.size w w':=by
 have hL:=hq.1;have HNO:=Zh (fun (h:¬(1≤lv∧lv≤(ls.length:Int)∧0≤a∧a<(N.ar.length:Int)))=>(show (Ending.returned (.tuple #[.int .i64 (-1),.int .i64 (-1)]):Ending)=Qrk N ls lv a by unfold Qrk leF enF;rw [Qii h]))
 by_cases i1:lv<1
 · have HE:=Zh (HNO.out (by omega))
   clear hg hq hok hP hL HNO
   go_enter func115,ntmps115
   exact Kap
 by_cases i2:(L:Int)<lv
 · have HE:=Zh (HNO.out (by omega))
   clear hg hq hok hP hL HNO
   go_enter func115,ntmps115
   exact Kap
 obtain ⟨j,rfl⟩:∃ j:Nat,lv=(j:Int)+1:=⟨(lv-1).toNat,by omega⟩;obtain ⟨qb,qo,A',n',c',l,rfl,hl,q1,q2,q3,q4⟩:=hq.at_ (i:=j) (by omega);have hln:=(hP.lvl l (Zm hl)).len;have hn':n'=N.vs.length:=by rw [←q2.1];exact hln
 have hL6:=hP.l6;have i3:(j:Int)+1-1=(j:Int):=by omega
 have i4:(0:Int)≤(j:Int):=by omega
 have i5:(j:Int)<(L:Int):=by omega
 have wj:IntKind.i64.wrap (j:Int)=(j:Int):=IntWalk.i64_in _ (by omega);have hb1:Below w.heap.size w (w.alloc (.cells #[.slice (some ⟨qb,qo,none⟩) L cq] 132)):=Qah
 by_cases ha:0≤a∧a<(N.ar.length:Int)
 · obtain ⟨b,rfl⟩:∃ b:Nat,a=(b:Int):=⟨a.toNat,by omega⟩
   obtain ⟨y,hy⟩:∃ y,N.ar[b]?=some y:=⟨_,Zg (by omega)⟩;obtain ⟨u,v,e1,e2,hu,hv⟩:=Qdi hok hy;have HF:=Zh (Qgf g b N y _ (hg.below hb1) hy);have HT:=Zh (Qeu g b N y _ (hg.below hb1) hy);rw [e1] at HF;rw [e2] at HT;obtain ⟨rb,ro,zu,rfl,hzu,cu⟩:=q2.at_ (i:=u) (by omega);obtain ⟨_,_,zv,er,hzv,cv⟩:=q2.at_ (i:=v) (by omega)
   cases er
   have HE:=Zh (show Qrk N ls ((j:Int)+1) (b:Int)=if zu=zv then .returned (.tuple #[.int .i64 (-1),.int .i64 (-1)]) else .returned (.tuple #[.int .i64 zu,.int .i64 zv]) from by
    unfold Qrk leF enF;rw [Qfd hl hy,e1,e2,Qbb hzu,Qbb hzv]
    by_cases e:zu=zv
    · rw [if_pos e,if_pos e]
    · rw [if_neg e,if_neg e])
   have k1:=Zc hb1 (Zn _) q1;have k2:=Zc hb1 (Zn _) cu;have k3:=Zc hb1 (Zn _) cv;have p0:decide ((u:Int)<0)=false:=by simp
   have p1:decide ((v:Int)<0)=false:=by simp
   have p2:decide (n'≤u)=false:=by simp;omega
   have p3:decide (n'≤v)=false:=by simp;omega
   have p4:(0:Int)≤(u:Int):=by omega
   have p5:(0:Int)≤(v:Int):=by omega
   have p6:(u:Int)<(n':Int):=by omega
   have p7:(v:Int)<(n':Int):=by omega
   have HSX:=Zh (show ∀ V,V=(w.alloc (.cells #[.slice (some ⟨qb,qo,none⟩) L cq] 132)).drew→V.cell? ⟨rb,ro+u,none⟩=some (.int .i64 zu)∧V.cell? ⟨rb,ro+v,none⟩=some (.int .i64 zv) from fun V e=>by subst e;exact ⟨k2,k3⟩)
   clear hg hq hok hP hl hy hu hv hzu hzv e1 e2 q1 q2 cu cv hb1 ha hln hn' HNO
   go_enter func115,ntmps115
   go_wp2_with fail
   with_reducible refine HF.out.mono ?_
   rintro e w' ⟨rfl,rfl⟩
   go_wp2_with fail
   with_reducible refine HT.out.mono ?_
   rintro e w' ⟨rfl,rfl⟩
   go_wp2_with fail
   refine wp_region_held_drew (S:=fun V=>V=(w.alloc (.cells #[.slice (some ⟨qb,qo,none⟩) L cq] 132)).drew) (by kernel_rfl) rfl (fun _=>?_)
   by_cases e:zu=zv
   · have HE:=Zh ((HE.out.trans (if_pos e)).symm)
     have e4:(zu == zv)=true:=by simp [e]
     refine tz 0 34 ?_;refine tz 1 35 ?_;refine tz 2 36 ?_;refine tz 3 37 ?_;refine tz 4 38 ?_;refine tz 5 39 ?_;refine tz 6 40 ?_;refine tz 7 41 ?_;refine tz 8 42 ?_;refine tz 9 43 ?_;refine tz 10 44 ?_;refine tz 11 45 ?_;refine tz 12 46 ?_;refine tz 13 47 ?_;refine tz 14 48 ?_;refine tz 15 49 ?_;refine tz 16 50 ?_;refine tz 17 51 ?_;refine tz 18 52 ?_;refine tz 19 53 ?_;refine tz 20 54 ?_;refine tz 21 55 ?_;refine tz 22 56 ?_;refine tz 23 57 ?_;refine tz 24 58 ?_;refine tz 25 59 ?_;refine tz 26 60 ?_;refine tz 27 61 ?_;refine tz 28 62 ?_;refine Zd ?_
     exact Kap
   · have HE:=Zh ((HE.out.trans (if_neg e)).symm)
     have e4:(zu == zv)=false:=by simp [e]
     refine tz 0 34 ?_;refine tz 1 35 ?_;refine tz 2 36 ?_;refine tz 3 37 ?_;refine tz 4 38 ?_;refine tz 5 39 ?_;refine tz 6 40 ?_;refine tz 7 41 ?_;refine tz 8 42 ?_;refine tz 9 43 ?_;refine tz 10 44 ?_;refine tz 11 45 ?_;refine tz 12 46 ?_;refine tz 13 47 ?_;refine tz 14 48 ?_;refine tz 15 49 ?_;refine tz 16 50 ?_;refine tz 17 51 ?_;refine tz 18 52 ?_;refine tz 19 53 ?_;refine tz 20 54 ?_;refine tz 21 55 ?_;refine tz 22 56 ?_;refine tz 23 57 ?_;refine tz 24 58 ?_;refine tz 25 59 ?_;refine tz 26 60 ?_;refine tz 27 61 ?_;refine tz 28 62 ?_;refine Zd ?_;clear HSX;have HSX:=Zh (show ∀ V,V=(w.alloc (.cells #[.slice (some ⟨qb,qo,none⟩) L cq] 132)).drew.drew→V.cell? ⟨rb,ro+u,none⟩=some (.int .i64 zu)∧V.cell? ⟨rb,ro+v,none⟩=some (.int .i64 zv) from fun V e=>by subst e;exact ⟨k2,k3⟩)
     go_wp2_with fail
     refine wp_region_held_drew (S:=fun V=>V=(w.alloc (.cells #[.slice (some ⟨qb,qo,none⟩) L cq] 132)).drew.drew) (by kernel_rfl) rfl (fun _=>?_);refine tz 0 63 ?_;refine tz 1 64 ?_;refine tz 2 65 ?_;refine tz 3 66 ?_;refine tz 4 67 ?_;refine tz 5 68 ?_;refine tz 6 69 ?_;refine tz 7 70 ?_;refine tz 8 8 ?_;refine tz 9 9 ?_;refine Zd ?_
     go_wp2_with fail
     refine bodyPost_ret (v:=.tuple #[.int .i64 zu,.int .i64 zv]) (by simp [results,results115,go_sem]) rfl ?_;exact ⟨HE.out,Qah⟩
 · have HF:=Zh (gFrom_no g N a _ (hg.below hb1) ha)
   have HT:=Zh (gTo_no g N a _ (hg.below hb1) ha);have HE:=Zh (HNO.out (by omega));have k1:=Zc hb1 (Zn _) q1;clear hg hq hok hP hl q1 q2 hb1 ha hln hn' HNO
   go_enter func115,ntmps115
   go_wp2_with fail
   with_reducible refine HF.out.mono ?_
   rintro e w' ⟨rfl,rfl⟩
   go_wp2_with fail
   with_reducible refine HT.out.mono ?_
   rintro e w' ⟨rfl,rfl⟩
   go_wp2_with fail
   refine wp_region_held_drew (S:=fun V=>V=(w.alloc (.cells #[.slice (some ⟨qb,qo,none⟩) L cq] 132)).drew) (by kernel_rfl) rfl (fun _=>?_);refine tz 0 34 ?_;refine tz 1 35 ?_;refine tz 2 36 ?_;refine tw 3 37 ?_;refine tw 4 38 ?_;refine tz 5 39 ?_;refine tz 6 40 ?_;refine tw 7 41 ?_;refine tw 8 42 ?_;refine tw 9 43 ?_;refine tw 10 44 ?_;refine tz 11 45 ?_;refine tz 12 46 ?_;refine tw 13 47 ?_;refine tw 14 48 ?_;refine tw 15 49 ?_;refine tw 16 50 ?_;refine tz 17 51 ?_;refine tz 18 52 ?_;refine tw 19 53 ?_;refine tw 20 54 ?_;refine tw 21 55 ?_;refine tw 22 56 ?_;refine tw 23 57 ?_;refine tw 24 58 ?_;refine tw 25 59 ?_;refine tw 26 60 ?_;refine tw 27 61 ?_;refine tz 28 62 ?_;refine Zd ?_
   exact Kap
theorem Qqb (w:World)(g:Nat)(N:Qam) (ls:List (List Int)) (Q:Option Addr) (L cq:Nat) (lv a:Int) (hg:Qes w g N) (hq:RdT w Q L ls) (hok:Qap N) (hP:Qaw N.vs.length ls) :
 Calls prog 59 #[.pointer (some ⟨g,0,none⟩),.agg #[.slice Q L cq],.int .i64 lv,.int .i64 a] w fun e w'=>e=.returned (.int .i64 (enF N ls lv a))∧Below w.heap.size w w':=by
 have hb1:Below w.heap.size w (w.alloc (.cells #[.slice Q L cq] 132)):=Qah;have HE:=Zh (Qnx _ g N ls Q L cq lv a (hg.below hb1) (hq.below hb1) hok hP);clear hg hq hok hP
 go_enter func59,ntmps59
 exact Kbq
theorem Qqi (w:World)(g:Nat)(N:Qam) (ls:List (List Int)) (Q:Option Addr) (L cq:Nat) (lv a:Int) (hg:Qes w g N) (hq:RdT w Q L ls) (hok:Qap N) (hP:Qaw N.vs.length ls) :
 Calls prog 60 #[.pointer (some ⟨g,0,none⟩),.agg #[.slice Q L cq],.int .i64 lv,.int .i64 a] w fun e w'=>e=.returned (.int .i64 (leF N ls lv a))∧Below w.heap.size w w':=by
 have hb1:Below w.heap.size w (w.alloc (.cells #[.slice Q L cq] 132)):=Qah;have HE:=Zh (Qnx _ g N ls Q L cq lv a (hg.below hb1) (hq.below hb1) hok hP);clear hg hq hok hP
 go_enter func60,ntmps60
 exact Kbq
theorem Qea (k c:Int)(w:World):Calls prog 57 #[.int .i64 k,.int .i64 c] w fun e w'=>∃ v,e=.returned v∧Qcq w' v [((⟨#[108,101,97,112]⟩:ByteArray),k)] c∧Below w.heap.size w w':=by
 go_enter func57,ntmps57
 go_wp2
 go_ret
 refine ⟨_,rfl,⟨w.heap.size,0,Qog c,rfl,?_,?_,?_,rfl⟩,Qah⟩
 all_goals simp
def Qqt (N:Qam) (ls:List (List Int)) (NC S:Nat) (lv f t k c:Int):Prop :=
 ((lv<1∨(ls.length:Int)<lv)∧k=0∧c=1)∨((1≤lv∧lv≤(ls.length:Int))∧NC≠S∧k=1∧c=1)∨((1≤lv∧lv≤(ls.length:Int))∧NC=S∧enF N ls lv f<0∧k=2∧c=5) ∨
 ((1≤lv∧lv≤(ls.length:Int))∧NC=S∧0≤enF N ls lv f∧leF N ls lv t≠enF N ls lv f∧k=3∧c=5) ∨
 (NC=S∧(∃ (a b j:Nat) (l:List Int) (y z:Tri),f=(a:Int)∧t=(b:Int)∧lv=(j:Int)+1∧ls[j]?=some l∧N.ar[a]?=some y∧N.ar[b]?=some z∧Qaa l y.1≠Qaa l y.2.1∧Qaa l z.1=Qaa l y.2.1∧Qaa l z.2.1≠Qaa l y.2.1∧Qfi N (Qbv l (Qaa l y.2.1)) a b 1152921504606846976)∧k=4∧c=12)
def LpR (N:Qam) (ls:List (List Int)) (NC S:Nat) (lv f t:Int) (e:Ending) (w':World):Prop :=
 (∃ k c v,Qqt N ls NC S lv f t k c∧e=.returned (.tuple #[.slice none 0 0,v])∧Qcq w' v [((⟨#[108,101,97,112]⟩:ByteArray),k)] c) ∨
 (∃ (A:Option Addr) (n cc:Nat) (L:List Nat) (a b j c:Nat) (l:List Int) (v:Int),NC=S∧f=(a:Int)∧t=(b:Int)∧lv=(j:Int)+1∧ls[j]?=some l∧Qhc N l c a b v∧e=.returned (.tuple #[.slice A n cc,.nilIface])∧Opn N (Qbv l c) a b v L∧RdI w' A n (nis (a::L))∧n≤1000000000∧n≤cc∧cc≤9223372036854775807)
set_option maxRecDepth 20000 in
set_option maxHeartbeats 4000000 in
theorem Qjr (w:World)(g o:Nat)(N:Qam) (ls:List (List Int)) (CA:Option Addr) (NC cC S:Nat) (cl:List Int) (lv f t:Int) (hg:Qes w g N) (ho:Qfy w o N.ar ls) (hc:RdI w CA NC cl) (hok:Qap N) (hP:Qaw N.vs.length ls) (hS:S=Qbx (Qac N.ar ls)) (hA:NC=S→Qcy N ls cl) (hcc:NC≤cC∧cC≤9223372036854775807) (hSm:S≤1000000000) :
 Calls prog 21 #[.pointer (some ⟨g,0,none⟩),.pointer (some ⟨o,0,none⟩),.slice CA NC cC,.int .i64 lv,.int .i64 f,.int .i64 t] w fun e w'=>LpR N ls NC S lv f t e w'∧Below w.heap.size w w':=by
 have HLS:=Zh (fun V (hV:Below w.heap.size w V)=>Qkd o N.ar ls V (ho.below hV));have HSZ:=Zh (fun V (hV:Below w.heap.size w V)=>(show Calls prog 48 #[.pointer (some ⟨o,0,none⟩)] V fun e w'=>e=.returned (.int .i64 (S:Nat))∧V=w' by rw [hS];exact Qko o N.ar ls V (ho.below hV)))
 obtain ⟨L,hL⟩:∃ L,L=ls.length:=⟨_,rfl⟩;rw [←hL] at HLS
 by_cases hlo:lv<1
 · have HBAD:=Zh (show Qqt N ls NC S lv f t 0 1 from .inl ⟨.inl hlo,rfl,rfl⟩)
   clear hg ho hc hok hP hS hA hcc hSm hL HLS HSZ
   go_enter func21,ntmps21
   exact Kal
 have hL6:L≤6:=by rw [hL];exact hP.l6
 by_cases hhi:(L:Int)<lv
 · have HBAD:=Zh (show Qqt N ls NC S lv f t 0 1 from .inl ⟨.inr (by omega),rfl,rfl⟩)
   clear hg ho hc hok hP hS hA hcc hSm hL HSZ
   go_enter func21,ntmps21
   go_wp2_with fail
   with_reducible refine (HLS.out w (Zr _ _)).mono ?_
   rintro r w' ⟨rfl,rfl⟩
   exact Kal
 have hin:1≤lv∧lv≤(ls.length:Int):=by omega
 by_cases hns:NC=S
 rotate_left
 · have HBAD:=Zh (show Qqt N ls NC S lv f t 1 1 from .inr (.inl ⟨hin,hns,rfl,rfl⟩))
   have hns2:¬(NC:Int)=(S:Int):=by omega
   clear hg ho hc hok hP hS hA hcc hSm hL hin hns
   go_enter func21,ntmps21
   go_wp2_with fail
   with_reducible refine (HLS.out w (Zr _ _)).mono ?_
   rintro r w' ⟨rfl,rfl⟩
   go_wp2_with fail
   with_reducible refine (HSZ.out w (Zr _ _)).mono ?_
   rintro r w' ⟨rfl,rfl⟩
   exact Kal
 have hA:=hA hns;have HNS:=Zh hns;have hns2:(NC:Int)=(S:Int):=by omega
 have HPT:=Zh (fun V (hV:Below w.heap.size w V)=>Qkq o N.ar ls V (ho.below hV) (by omega) (fun l hl=>by have:=(hP.lvl l hl).len;have:=hok.lv;omega));rw [←hL] at HPT;have HEN:=Zh (fun V (hV:Below w.heap.size w V) Q cq (hq:RdT V Q L ls)=>Qqb V g N ls Q L cq lv f (hg.below hV) hq hok hP);have HLE:=Zh (fun V (hV:Below w.heap.size w V) Q cq (hq:RdT V Q L ls)=>Qqi V g N ls Q L cq lv t (hg.below hV) hq hok hP)
 by_cases h0:enF N ls lv f<0
 · have HBAD:=Zh (show Qqt N ls NC S lv f t 2 5 from .inr (.inr (.inl ⟨hin,hns,h0,rfl,rfl⟩)))
   obtain ⟨ev,hev⟩:∃ ev,ev=enF N ls lv f:=⟨_,rfl⟩;rw [←hev] at h0 HEN;clear hg ho hc hok hP hS hA hcc hSm hL hin hev HLE hns
   go_enter func21,ntmps21
   go_wp2_with fail
   with_reducible refine (HLS.out w (Zr _ _)).mono ?_
   rintro r w' ⟨rfl,rfl⟩
   go_wp2_with fail
   with_reducible refine (HSZ.out w (Zr _ _)).mono ?_
   rintro r w' ⟨rfl,rfl⟩
   go_wp2_with fail
   with_reducible refine (HPT.out w (Zr _ _)).mono ?_
   rintro r w1 ⟨Q,cq,rfl,hQ,hb1⟩;have HQ1:=Zh (hQ.le (Qat _ _));have HB1:=Zh hb1;clear hQ hb1 HPT
   go_wp2_with fail
   (refine Qae ?_;intro w2 hw2)
   have hb2:Below w1.heap.size w1 w2:=by rw [hw2];exact Qah
   have HP2:=Zh (show Blk w2 w1.heap.size 132 #[.slice Q L cq] by rw [hw2];exact Blk.new _ _ _)
   have HB2:=Zh (Zb HB1.out hb2);have HQ2:=Zh (HQ1.out.below hb2);clear hw2 hb2;with_reducible refine (HEN.out w2 HB2.out Q cq HQ2.out).mono ?_
   rintro r w3 ⟨rfl,hb3⟩;have HB3:=Zh (Zb HB2.out hb3);have HQ3:=Zh (HQ2.out.below hb3);have HP3:=Zh (HP2.out.below hb3 HP2.out.lt);have y0:w3.cell? ⟨w1.heap.size,0,none⟩=some (.slice Q L cq):=Zq HP3.out;clear hb3 HEN
   go_wp2_with fail
   clear y0;with_reducible refine (Qea _ _ _).mono ?_
   rintro r wf ⟨vf,rfl,hcf,hbf⟩;obtain ⟨tf,xf,rfl⟩:=Qbg hcf;have HCF:=Zh hcf;clear hcf
   go_wp2_with fail
   refine bodyPost_ret (v:=.tuple #[.slice none 0 0,.iface tf xf]) (by simp [results,results21,go_sem]) rfl ?_;exact ⟨.inl ⟨_,_,_,HBAD.out,rfl,HCF.out⟩,(Zb HB3.out hbf)⟩
 by_cases h1:leF N ls lv t=enF N ls lv f
 rotate_left
 · have HBAD:=Zh (show Qqt N ls NC S lv f t 3 5 from .inr (.inr (.inr (.inl ⟨hin,hns,by omega,h1,rfl,rfl⟩))))
   obtain ⟨ev,hev⟩:∃ ev,ev=enF N ls lv f:=⟨_,rfl⟩;obtain ⟨lw,hlw⟩:∃ ev,ev=leF N ls lv t:=⟨_,rfl⟩;rw [←hev] at h0 h1 HEN;rw [←hlw] at h1 HLE;have h2:(lw != ev)=true:=by simpa using h1
   clear hg ho hc hok hP hS hA hcc hSm hL hin hev hlw hns
   go_enter func21,ntmps21
   go_wp2_with fail
   with_reducible refine (HLS.out w (Zr _ _)).mono ?_
   rintro r w' ⟨rfl,rfl⟩
   go_wp2_with fail
   with_reducible refine (HSZ.out w (Zr _ _)).mono ?_
   rintro r w' ⟨rfl,rfl⟩
   go_wp2_with fail
   with_reducible refine (HPT.out w (Zr _ _)).mono ?_
   rintro r w1 ⟨Q,cq,rfl,hQ,hb1⟩;have HQ1:=Zh (hQ.le (Qat _ _));have HB1:=Zh hb1;clear hQ hb1 HPT
   go_wp2_with fail
   (refine Qae ?_;intro w2 hw2)
   have hb2:Below w1.heap.size w1 w2:=by rw [hw2];exact Qah
   have HP2:=Zh (show Blk w2 w1.heap.size 132 #[.slice Q L cq] by rw [hw2];exact Blk.new _ _ _)
   have HB2:=Zh (Zb HB1.out hb2);have HQ2:=Zh (HQ1.out.below hb2);clear hw2 hb2;with_reducible refine (HEN.out w2 HB2.out Q cq HQ2.out).mono ?_
   rintro r w3 ⟨rfl,hb3⟩;have HB3:=Zh (Zb HB2.out hb3);have HQ3:=Zh (HQ2.out.below hb3);have HP3:=Zh (HP2.out.below hb3 HP2.out.lt);have y0:w3.cell? ⟨w1.heap.size,0,none⟩=some (.slice Q L cq):=Zq HP3.out;clear hb3 HEN
   go_wp2_with fail
   with_reducible refine (HLE.out w3 HB3.out Q cq HQ3.out).mono ?_
   rintro r w4 ⟨rfl,hb4⟩;have HB4:=Zh (Zb HB3.out hb4);clear hb4 y0 HLE
   go_wp2_with fail
   with_reducible refine (Qea _ _ _).mono ?_
   rintro r wf ⟨vf,rfl,hcf,hbf⟩;obtain ⟨tf,xf,rfl⟩:=Qbg hcf;have HCF:=Zh hcf;clear hcf
   go_wp2_with fail
   refine bodyPost_ret (v:=.tuple #[.slice none 0 0,.iface tf xf]) (by simp [results,results21,go_sem]) rfl ?_;exact ⟨.inl ⟨_,_,_,HBAD.out,rfl,HCF.out⟩,(Zb HB4.out hbf)⟩
 rw [h1] at HLE;obtain ⟨a,b,j,l,y,z,rfl,rfl,rfl,hl,hy,hz,g1,g2,g3,g4⟩:=leap_of (by omega) h1;obtain ⟨cc,p,q,kk,x,hcx,hx,hp,hq,hp2,hq2,hI⟩:=Qwi hok hP hl hy hz g1 g2 g3;obtain ⟨v,hv,hE⟩:=hA.at_ hI;have hvb:=hE.bd hok;rw [hcx] at g4;rw [g4] at HEN HLE;have hkn:kk<NC:=by rw [←hc.1];exact (Zs hv).1
 have hgl:=Qbi hx;have hla:=hok.la;have HGA:=Zh (fun V (hV:Below w.heap.size w V)=>oGate_ok o j cc N.ar ls l x V (ho.below hV) hl (by omega) hx (by omega));have HPI:=Zh (fun (A1:Option Addr) (n1 c1:Nat) V (hV:RdI V A1 n1 x.1)=>hp▸Qdr A1 n1 c1 x.1 (a:Int) V hV (Qdp hx) (by rw [←hV.1];omega));have HPO:=Zh (fun (A1:Option Addr) (n1 c1:Nat) V (hV:RdI V A1 n1 x.2)=>hq▸Qdr A1 n1 c1 x.2 (b:Int) V hV (Qek hx) (by rw [←hV.1];omega));have HAT:=Zh (fun V (hV:Below w.heap.size w V)=>hI.hk.symm▸at_ok o j cc p q N.ar ls l x V (ho.below hV) hl hx (Zs hp2).1 (Zs hq2).1 (by omega) (by omega))
 have HNO:=Zh (fun (V:World) (hV:Below w.heap.size w V) =>
  have hle:Le w (msk V (fun b=>b<V.heap.size)):=Le.mskBelow hV (fun b hb=>Yu hb hV.size)
  Qiq V V.heap.size g o N ls CA NC cC cl (Zn _) (hg.le hle) (ho.le hle) (hc.le hle) hok hP hA hcc (by omega))
 have HBAD:=Zh (fun (hi:v=1152921504606846976)=>(show Qqt N ls NC S ((j:Int)+1) (a:Int) (b:Int) 4 12 from .inr (.inr (.inr (.inr ⟨hns,⟨a,b,j,l,y,z,rfl,rfl,rfl,hl,hy,hz,g1,g2,g3,by rw [hcx,←hi];exact hE⟩,rfl,rfl⟩)))))
 have HLP:=Zh (fun (hi:v≠1152921504606846976)=>(show Qhc N l cc a b v from ⟨⟨y,hy,by rw [←hcx];exact g1,hcx⟩,⟨z,hz,by rw [←hcx];exact g2,by rw [←hcx];exact g3⟩,hE,hi⟩))
 have HLL:=Zh hl;have HNL:=Zh hla;obtain ⟨cb,co,v',rfl,hv',cv⟩:=hc.at_ hkn;rw [hv] at hv'
 cases hv'
 have HCV:=Zh cv;have k3:(kk:Int)<(NC:Int):=by omega
 have k4:(0:Int)≤(kk:Int):=by omega
 have k5:¬(kk:Int)<0:=by omega
 have h0:¬(cc:Int)<0:=by omega
 have h2:((cc:Int) != (cc:Int))=false:=by simp
 obtain ⟨J,hJ⟩:∃ J,J=j+1:=⟨_,rfl⟩;have HJ:=Zh hJ;have hJL:(J:Int)≤(L:Int):=by omega
 have hJ1:¬(J:Int)<1:=by omega
 have hJ2:¬(L:Int)<(J:Int):=by omega
 have hJe:(j:Int)+1=(J:Int):=by omega
 simp only [hJe] at HEN HLE HGA HAT HBAD ⊢;clear hg ho hc hok hP hS hA hcc hSm hL hin h1 g1 g2 g3 g4 hcx hx hp hq hp2 hq2 hI hv cv hl hy hz hgl hla hkn hhi hlo hE hJ hJe hns
 go_enter func21,ntmps21
 go_wp2_with fail
 with_reducible refine (HLS.out w (Zr _ _)).mono ?_
 rintro r w' ⟨rfl,rfl⟩
 go_wp2_with fail
 with_reducible refine (HSZ.out w (Zr _ _)).mono ?_
 rintro r w' ⟨rfl,rfl⟩
 go_wp2_with fail
 with_reducible refine (HPT.out w (Zr _ _)).mono ?_
 rintro r w1 ⟨Q,cq,rfl,hQ,hb1⟩;have HQ1:=Zh (hQ.le (Qat _ _));have HB1:=Zh hb1;clear hQ hb1 HPT
 go_wp2_with fail
 (refine Qae ?_;intro w2 hw2)
 have hb2:Below w1.heap.size w1 w2:=by rw [hw2];exact Qah
 have HP2:=Zh (show Blk w2 w1.heap.size 132 #[.slice Q L cq] by rw [hw2];exact Blk.new _ _ _)
 have HB2:=Zh (Zb HB1.out hb2);have HQ2:=Zh (HQ1.out.below hb2);clear hw2 hb2;with_reducible refine (HEN.out w2 HB2.out Q cq HQ2.out).mono ?_
 rintro r w3 ⟨rfl,hb3⟩;have HB3:=Zh (Zb HB2.out hb3);have HQ3:=Zh (HQ2.out.below hb3);have HP3:=Zh (HP2.out.below hb3 HP2.out.lt);have y0:w3.cell? ⟨w1.heap.size,0,none⟩=some (.slice Q L cq):=Zq HP3.out;clear hb3 HEN
 go_wp2_with fail
 with_reducible refine (HLE.out w3 HB3.out Q cq HQ3.out).mono ?_
 rintro r w4 ⟨rfl,hb4⟩;have HB4:=Zh (Zb HB3.out hb4);clear hb4 y0 HLE
 go_wp2_with fail
 with_reducible refine (HGA.out w4 HB4.out).mono ?_
 rintro r w7 ⟨A1,n1,c1,A2,n2,c2,rfl,h71,h72,hb7⟩;have HB7:=Zh (Zb HB4.out hb7);clear hb7 HGA
 go_wp2_with fail
 (refine Qai ?_;intro w8 hw8)
 have hb8:Below w7.heap.size w7 w8:=by rw [hw8];exact Qah
 have hG8:Blk w8 w7.heap.size 135 #[.slice A1 n1 c1,.slice A2 n2 c2]:=by rw [hw8];exact Blk.new _ _ _
 clear hw8;have HB8:=Zh (Zb HB7.out hb8);have HI8:=Zh (h71.below hb8);have HJ8:=Zh (h72.below hb8)
 have HSX:=Zh (show ∀ V,Below w8.heap.size w8 V→V.cell? ⟨w7.heap.size,0,none⟩=some (.slice A1 n1 c1)∧V.cell? ⟨w7.heap.size,1,none⟩=some (.slice A2 n2 c2) from fun V hV=>by
  have hG':=hG8.below hV hG8.lt;exact ⟨Zq hG',Zq hG'⟩)
 clear hb8 h71 h72 hG8;refine wp_region_held_drew (S:=fun V=>Below w8.heap.size w8 V) (by kernel_rfl) (Zr _ _).drew (fun _=>?_);refine tz 0 57 ?_;refine tz 1 58 ?_;refine tz 2 59 ?_;refine tz 3 60 ?_;refine tz 4 61 ?_;refine tz 5 62 ?_;refine tz 7 64 ?_;refine tz 8 65 ?_;refine tz 9 66 ?_;refine Zk 6 (fun K hK=>?_);go_simp;with_reducible refine (HPI.out A1 n1 c1 _ (HI8.out.below (Zr _ _).drew)).mono ?_
 rintro r w9 ⟨rfl,hb9⟩;have hb9':Below w8.heap.size w8 w9:=(Zr _ _).drew.trans hb9;go_simp;refine hK.out _ _ hb9' (fun _=>?_);clear hK K hb9;refine Zk 10 (fun K hK=>?_);go_simp;with_reducible refine (HPO.out A2 n2 c2 _ (HJ8.out.below hb9')).mono ?_
 rintro r wa ⟨rfl,hba⟩;have hba':Below w8.heap.size w8 wa:=Zb hb9' hba;go_simp;refine hK.out _ _ hba' (fun _=>?_);clear hK K hba hb9';refine Zk 11 (fun K hK=>?_);go_simp;with_reducible refine (HAT.out wa (Zb HB8.out hba')).mono ?_
 rintro r wb ⟨rfl,hbb⟩;have hbb':Below w8.heap.size w8 wb:=Zb hba' hbb;go_simp;refine hK.out _ _ hbb' (fun _=>?_);clear hK K hbb hba';refine tz 12 17 ?_;refine Zd ?_;have HBb:=Zh (Zb HB8.out hbb');have cvb:=Zc HBb.out (Zn _) HCV.out;clear hbb' HSX HAT HPI HPO
 by_cases hvi:v=1152921504606846976
 · have HBAD:=Zh (HBAD.out hvi)
   have e1:(1152921504606846976:Int)≤v:=by omega
   clear hvb hvi
   go_wp2_with fail
   with_reducible refine (Qea _ _ _).mono ?_
   rintro r wf ⟨vf,rfl,hcf,hbf⟩;obtain ⟨tf,xf,rfl⟩:=Qbg hcf;have HCF:=Zh hcf;clear hcf
   go_wp2_with fail
   refine bodyPost_ret (v:=.tuple #[.slice none 0 0,.iface tf xf]) (by simp [results,results21,go_sem]) rfl ?_;exact ⟨.inl ⟨_,_,_,HBAD.out,rfl,HCF.out⟩,(Zb HBb.out hbf)⟩
 have HLPv:=Zh (HLP.out hvi);have e1:¬(1152921504606846976:Int)≤v:=by omega
 clear hvb hvi HBAD
 go_wp2_with fail
 with_reducible refine (HNO.out wb HBb.out).mono ?_
 rintro r wc ⟨E,G,ff,bf,dl,rfl,⟨_,_,eN,els,_⟩,hE,hW,hD,hG,hG2,hbc⟩;have HOP:=Zh (Qrz E hE j wc G _ 0 ff bf dl _ 0 0 J a b cc l v hW HJ.out (by rw [els];exact HLL.out) (by rw [eN];exact HLPv.out) hD (by omega) (by omega) (by omega) (by omega));have HEN:=Zh eN;have HG:=Zh hG;have HBc:=Zh (Zb HBb.out hbc);have HWB:=Zh (show w.heap.size≤wb.heap.size from HBb.out.size)
 clear eN els hE hW hD hG hG2 hbc HNO cvb
 go_wp2_with fail
 with_reducible refine HOP.out.mono ?_
 rintro e wd ⟨A3,k3',c3,m3,L3,GX,n3,f3,bf3,dl3,hp3,rfl,hop,hk3,hm3,_,_,_,_,ha3,hr3,hn3,hc3,hc4⟩;rw [HEN.out] at hop;have HOPN:=Zh hop;have hL3:=hop.len;have hNL:=HNL.out;have HBd:=Zh (show Below w.heap.size w wd from HBc.out.trans (ha3.bel _ (fun b hb=>.inl (HG.out b (by have:=HWB.out;omega)))))
 have HR3:=Zh (hr3.le (Qat _ _));have HC3:=Zh hc3;have HC4:=Zh hc4;have HK3:=Zh (show k3'≤16384 by omega)
 clear hop hk3 hm3 ha3 hr3 hn3 hc3 hc4 hL3 hNL
 go_wp2_with fail
 (refine Qae ?_;intro we hwe)
 have hbe:Below wd.heap.size wd we:=by rw [hwe];exact Qah
 have hS1:Blk we wd.heap.size 3 #[.int .i64 (a:Nat)]:=by rw [hwe];exact Qbh
 have hS2:Blk we (wd.heap.size+1) 61 #[.slice (some ⟨wd.heap.size,0,none⟩) 1 1,.slice A3 k3' c3]:=by rw [hwe];exact Qbh
 clear hwe;have hRa:RdI we (some ⟨wd.heap.size,0,none⟩) 1 (nis [a]):=Blk.rdI (t:=3) (l:=[(a:Int)]) hS1 rfl;have HCT:=Zh (Qqd _ _ 1 1 k3' c3 (wd.heap.size+1) 2 (nis [a]) (nis L3) we hS2 hRa (HR3.out.below hbe) (by omega) HC3.out (by omega) HC4.out (by omega) (by have:=HK3.out;omega));have HBe:=Zh (Zb HBd.out hbe);clear hbe hS1 hS2 hRa;with_reducible refine HCT.out.mono ?_
 rintro r wf ⟨A6,m6,c6,rfl,hm6,hr6,hc6,hc7,_,hbf⟩;rw [←Qfj] at hr6;have HR6:=Zh hr6;have HBf:=Zh (Zb HBe.out hbf);have HM6:=Zh (show m6≤1000000000∧m6≤c6∧c6≤9223372036854775807 from ⟨hm6,hc6,hc7⟩)
 clear hr6 hbf hm6 hc6 hc7
 go_wp2_with fail
 refine bodyPost_ret (v:=.tuple #[.slice A6 m6 c6,.nilIface]) (by simp [results,results21,go_sem]) rfl ?_;exact ⟨.inr ⟨A6,m6,c6,L3,a,b,j,cc,l,v,HNS.out,rfl,rfl,by have:=HJ.out;omega,HLL.out,HLPv.out,rfl,HOPN.out,HR6.out,HM6.out⟩,HBf.out⟩
def Qaz:Qam:=⟨[(0,0,1),(1,0,0),(2,0,0),(3,0,0),(4,0,0),(5,0,2)],[(0,1,10),(1,2,10),(2,3,10),(3,4,10),(4,5,10)],[⟨1,1,[1]⟩,⟨0,1,[]⟩,⟨1,0,[]⟩]⟩
def Qdj:List (List Int):=[[0,0,1,1,2,2]]
theorem Qhv:Qap Qaz:=by
 refine ⟨by decide,by decide,by decide,?_,?_,?_,?_⟩
 · intro t ht
   simp only [Qaz,List.mem_cons,List.not_mem_nil,or_false] at ht
   rcases ht with rfl|rfl|rfl <;> exact ⟨by decide,by decide,by decide,by decide,by decide,by decide⟩
 · intro t ht
   simp only [Qaz,List.mem_cons,List.not_mem_nil,or_false] at ht
   rcases ht with rfl|rfl|rfl|rfl|rfl|rfl <;> exact ⟨by decide,by decide,by decide,by decide⟩
 · intro t ht
   simp only [Qaz,List.mem_cons,List.not_mem_nil,or_false] at ht
   rcases ht with rfl|rfl|rfl|rfl|rfl <;> exact ⟨by decide,by decide,by decide,by decide,by decide⟩
 · intro i v t hv ht
   have hi:i<6:=(Zs hv).1
   rcases (by omega:i=0∨i=1∨i=2∨i=3∨i=4∨i=5) with rfl|rfl|rfl|rfl|rfl|rfl
   all_goals
    simp only [Qaz,Yn,List.getElem?_cons_succ,Option.some.injEq] at hv;subst hv
    revert ht
    simp only [Qaz,show (1:Int).toNat=1 from rfl,show (2:Int).toNat=2 from rfl,show (0:Int).toNat=0 from rfl,Yn,List.getElem?_cons_succ,Option.some.injEq]
    rintro rfl;exact ⟨by decide,by decide⟩
theorem Qhe:Qaw Qaz.vs.length Qdj:=by
 refine ⟨by decide,by decide,?_,?_⟩
 · intro l hl
   simp only [Qdj,List.mem_cons,List.not_mem_nil,or_false] at hl;subst hl;refine ⟨by decide,by decide,by decide,?_⟩;intro c hc;have hm:Qar [0,0,1,1,2,2]=3:=by decide
   rw [hm] at hc
   rcases (by omega:c=0∨c=1∨c=2) with rfl|rfl|rfl <;> decide
 · intro i p l hp hl
   have hi:i+1<1:=(Zs hl).1
   omega
theorem ch_lt {a:Nat}{y:Tri} (h:Qaz.ar[a]?=some y):a≤4∧y=((a:Int),(a:Int)+1,10):=by
 match a,h with
 | 0,h=>cases h;exact ⟨by omega,rfl⟩
 | 1,h=>cases h;exact ⟨by omega,rfl⟩
 | 2,h=>cases h;exact ⟨by omega,rfl⟩
 | 3,h=>cases h;exact ⟨by omega,rfl⟩
 | 4,h=>cases h;exact ⟨by omega,rfl⟩
 | k+5,h=>simp [Qaz] at h
theorem ch_t (a:Nat)(h:a≤3):Qaq Qaz a (a+1)=1:=by
 rcases (by omega:a=0∨a=1∨a=2∨a=3) with rfl|rfl|rfl|rfl <;> decide
theorem Qwh {a b:Nat}(h:Qaq Qaz a b≠1152921504606846976):a≤3∧b=a+1:=by
 obtain ⟨x,y,hx,hy,e⟩:=Qbu h;obtain ⟨h1,rfl⟩:=ch_lt hx;obtain ⟨h2,rfl⟩:=ch_lt hy;simp only at e;exact ⟨by omega,by omega⟩
theorem Qmz {a b:Nat}{d:Int}:StW Qaz a b d↔a≤3∧b=a+1∧d=11:=by
 constructor
 · rintro ⟨y,hy,h1,_,rfl⟩
   obtain ⟨h3,rfl⟩:=Qwh h1;obtain ⟨_,rfl⟩:=ch_lt hy;refine ⟨h3,rfl,?_⟩;rw [ch_t a h3];exact (by decide:(1:Int)+10=11)
 · rintro ⟨h1,rfl,rfl⟩
   refine ⟨((a:Int)+1,(a:Int)+1+1,10),?_,?_,(by decide:(10:Int)≠1152921504606846976),by rw [ch_t a h1];exact (by decide:(11:Int)=1+10)⟩
   · rcases (by omega:a=0∨a=1∨a=2∨a=3) with rfl|rfl|rfl|rfl <;> rfl
   · rw [ch_t a h1]
     decide
theorem ch_rch {s p:Nat}{c:Int} (h:Rch (StW Qaz) s p c):s≤p∧c=11*((p:Int)-(s:Int))∧(p=s∨p≤4):=by
 induction h with
 | start=>exact ⟨Zn _,by omega,.inl rfl⟩
 | step _ h2 ih =>
  obtain ⟨h3,rfl,rfl⟩:=Qmz.1 h2;exact ⟨by omega,by omega,.inr (by omega)⟩
theorem ch_to (p:Nat)(h:p≤4):Rch (StW Qaz) 0 p (11*(p:Int)):=by
 induction p with
 | zero=>exact .start
 | succ p ih =>
  have:=(ih (by omega)).step (Qmz.2 ⟨by omega,rfl,rfl⟩);rw [show 11*((p+1:Nat):Int)=11*(p:Int)+11 by omega]
  exact this
theorem ch_dist:Lst (Rch (StW Qaz) 0 4) 44:=.inl ⟨ch_to 4 (by omega),fun c hc=>by have:=ch_rch hc;omega⟩
theorem ch_gr:Qaf Qaz.ar [0,0,1,1,2,2]=[([],[1]),([1],[3]),([3],[])]:=by decide
theorem Qsh:Qac Qaz.ar Qdj=[[([],[1]),([1],[3]),([3],[])]]:=by unfold Qac Qdj;rw [List.map_cons,ch_gr];rfl
theorem Qpb:Qbx (Qac Qaz.ar Qdj)=1:=by rw [Qsh];decide
theorem ch_ent:Qfi Qaz (Qbv [0,0,1,1,2,2] 1) 1 3 12:=by
 have hst:∀ {a b d},StA Qaz (Qbv [0,0,1,1,2,2] 1) a b d→a=1∧b=2∧d=11:=fun {a b d} h=>by
  obtain ⟨h1,rfl,rfl⟩:=Qmz.1 h.all;obtain ⟨y,hy,_,_,h3,h4,_⟩:=h
  rcases (by omega:a=0∨a=1∨a=2∨a=3) with rfl|rfl|rfl|rfl
  · cases hy;exact absurd h3 (by decide)
  · exact ⟨rfl,rfl,rfl⟩
  · cases hy;exact absurd h4 (by decide)
  · cases hy;exact absurd h3 (by decide)
 have hr:∀ p c,Rch (StA Qaz (Qbv [0,0,1,1,2,2] 1)) 1 p c→p=1∧c=0∨p=2∧c=11:=by
  intro p c h
  induction h with
  | start=>exact .inl ⟨rfl,rfl⟩
  | step _ h2 ih =>
   obtain ⟨rfl,rfl,rfl⟩:=hst h2
   rcases ih with ⟨_,rfl⟩|⟨h,_⟩
   · exact .inr ⟨rfl,by decide⟩
   · exact absurd h (by decide)
 refine .inl ⟨⟨2,11,1,?_,⟨by decide,by decide⟩,rfl⟩,fun v hv=>?_⟩
 · exact Rch.start.step (show StA Qaz (Qbv [0,0,1,1,2,2] 1) 1 2 11 from ⟨(2,3,10),rfl,by decide,by decide,by decide,by decide,by decide⟩)
 · obtain ⟨p,c,d,h1,⟨h2,rfl⟩,rfl⟩:=hv
   rcases hr p c h1 with ⟨rfl,rfl⟩|⟨rfl,rfl⟩
   · exact absurd (by decide) h2
   · rw [ch_t 2 (by omega)];decide
theorem Qsl:Qcy Qaz Qdj [12]:=by
 refine ⟨by rw [Qpb];rfl,fun k v hk=>?_⟩
 match k,hk with
 | 0,hk =>
  cases hk
  exact ⟨0,[0,0,1,1,2,2],1,([1],[3]),0,0,1,3,⟨rfl,by rw [ch_gr];rfl,rfl,rfl,by rw [Qsh,ch_gr];decide⟩,ch_ent⟩
 | k+1,hk=>simp at hk
set_option maxHeartbeats 400000 in
theorem Qsd (A:Option Addr)(n c:Nat)(l:List Int)(w:World)(h:RdI w A n l)(hn:n≤1000000)(hb:∀ x∈l,0≤x∧x≤1000000) :
 Calls prog 159 #[.slice A n c] w fun e w'=>e=.returned (.int .i64 (Qar l))∧w=w':=by
 have HR:=Zh h;have HL:=Zh h.1;have HB:=Zh hb;clear h hb
 go_enter func159,ntmps159
 go_wp2_with fail
 go_loop [3,4] (fun m q=>∃ k:Nat,k≤n∧q=.int .i64 k∧m=.int .i64 (Qar (l.take k))) (fun _ q=>n-(intOf q).toNat)
 case atStart=>exact ⟨0,Nat.zero_le _,rfl,rfl⟩
 case round =>
  obtain ⟨k,hk,rfl,rfl⟩:=hrel
  by_cases hlt:k<n
  · obtain ⟨b,o,x,rfl,hx,hc⟩:=HR.out.at_ hlt
    have hxb:=HB.out x (Zm hx);have HNX:=Zh (Qgg hx);have i1:(0:Int)≤(k:Int):=by omega
    have i2:(k:Int)<(n:Int):=by omega
    clear hx;generalize Qar (l.take k)=m at *;have HM:=Zh (show (if m<x+1 then x+1 else m)=max m (x+1) by split <;> omega)
    go_wp2_with fail
    go_round
    case rel=>exact ⟨k+1,by omega,by go_num,by rw [HNX.out,←HM.out]⟩
    case measure=>simp [intOf];omega
  · obtain rfl:n=k:=by omega
    have HE:=Zh (show Qar (l.take n)=Qar l by rw [Ye (by rw [HL.out];exact Zn _)])
    go_wp2
    go_ret
    exact ⟨Qca HE.out,rfl⟩
def Qfw (ls:List (List Int)) (i:Nat):Option (List Int):=if i=0 then none else ls[i-1]?
theorem Qqs (ls:List (List Int)):Qfw ls 0=none:=rfl
theorem Qhb (ls:List (List Int)) (j:Nat):Qfw ls (j+1)=ls[j]?:=rfl
theorem Qrj {n:Nat} {p:Option (List Int)} {l:List Int} (h:l.length≠n):Qep n p l=1:=by unfold Qep;rw [if_pos h]
theorem Qid {n:Nat} {p:Option (List Int)} {l:List Int} (h:l.length=n) (hn:¬(Qfx n l∧∀ q,p=some q→Qdo q l)):Qep n p l=10:=by
 unfold Qep;rw [if_neg (fun e=>e h),if_neg hn]
theorem Qlu {n:Nat} {p:Option (List Int)} {l:List Int} (h:Qfx n l) (hn:∀ q,p=some q→Qdo q l):Qep n p l=0:=by
 unfold Qep;rw [if_neg (fun e=>e h.len),if_pos ⟨h,hn⟩]
set_option maxHeartbeats 2000000 in
set_option maxRecDepth 20000 in
theorem Qky (Q:Option Addr)(n L cq i:Nat) (ls:List (List Int)) (l:List Int) (w:World) (h:RdT w Q L ls) (hl:ls[i]?=some l) (hn:n≤4096) (hL:L≤1000000) (hprev:∀ j p,i=j+1→ls[j]?=some p→p.length=n) :
 Calls prog 135 #[.int .i64 n,.agg #[.slice Q L cq],.int .i64 ((i:Int)+1),.slice none 0 0] w fun e w'=>e=.returned (.int .i64 (Qep n (Qfw ls i) l))∧Below w.heap.size w w':=by
 have hi:i<L:=by rw [←h.1];exact (Zs hl).1
 have HT:=Zh h;obtain ⟨b,o,A,m,c,l',rfl,hl',hc,hr,q1,q2⟩:=h.at_ hi;rw [hl] at hl'
 cases hl'
 have HR:=Zh hr;have HLEN:=Zh hr.1;have HLL:=Zh hl;have HPV:=Zh hprev;have hca:=fun ob=>Zc (show Below w.heap.size w (w.alloc ob) from Qah) (Zn _) hc
 have i1:(0:Int)≤(i:Int):=by omega
 have i2:(i:Int)<(L:Int):=by omega
 have i5:(i:Int)+1-1=(i:Int):=by omega
 have hmk:=Qde n (by omega);clear h hr hl hprev q1
 by_cases hmn:m=n
 rotate_left
 · have e1:((m:Int) != (n:Int))=true:=by simp;omega
   have e2:((m:Int) == (n:Int))=false:=by simp;omega
   have HC:=Zh (Qrj (n:=n) (p:=Qfw ls i) (l:=l) (by rw [HLEN.out];exact hmn))
   go_enter func135,ntmps135
   go_wp2_with fail
   go_ret
   exact ⟨Qca HC.out.symm,Qah⟩
 subst hmn
 go_enter func135,ntmps135
 go_wp2_with fail
 (refine Qai ?_;intro w1 hw1)
 have hb1:Below w.heap.size w w1:=by rw [hw1];exact Qah
 have hQ:Blk w1 w.heap.size 29 #[.slice (some ⟨b,o,none⟩) L cq]:=by rw [hw1];exact Qbh
 have HR1:=Zh (HR.out.below hb1);clear hw1 hca
 go_loop [10] (fun q=>∃ k:Nat,k≤m∧q=.int .i64 k∧∀ j x,j<k→l[j]?=some x→0≤x∧x<m) (fun q=>m-(intOf q).toNat)
 case atStart=>exact ⟨0,Nat.zero_le _,rfl,fun _ _ h=>absurd h (Nat.not_lt_zero _)⟩
 case round =>
  obtain ⟨k,hk,rfl,hall⟩:=hrel;have HA:=Zh hall;clear hall
  by_cases hlt:k<m
  · obtain ⟨b',o',x,rfl,hx,hcx⟩:=HR1.out.at_ hlt
    have j1:(0:Int)≤(k:Int):=by omega
    have j2:(k:Int)<(m:Int):=by omega
    have HX:=Zh hx;clear hx
    by_cases hok:0≤x∧x<m
    · have g0:=hok.1
      have g1:=hok.2;have HOK:=Zh hok;clear hok
      go_wp2_with fail
      go_round
      case rel=>exact ⟨k+1,by omega,by go_num,fun j y hj hy=>by
       by_cases e:j=k
       · subst e
         rw [HX.out] at hy
         cases hy
         exact HOK.out
       · exact HA.out j y (by omega) hy⟩
      case measure=>simp [intOf];omega
    · have HC:=Zh (Qid (n:=m) (p:=Qfw ls i) (l:=l) HLEN.out (fun hh=>hok ⟨hh.1.lo x (Zm HX.out),hh.1.hi x (Zm HX.out)⟩))
      by_cases hx0:x<0
      · clear hok
        go_wp2_with fail
        go_ret
        exact ⟨Qca HC.out.symm,hb1⟩
      · have hx1:¬x<m:=by omega
        have hx2:x ≥ m:=by omega
        clear hok
        go_wp2_with fail
        go_ret
        exact ⟨Qca HC.out.symm,hb1⟩
  · obtain rfl:m=k:=by omega
    have HN:=Zh (show ∀ x∈l,0≤x∧x<m from fun x hx=>by
     obtain ⟨j,hj⟩:=Yr hx;exact HA.out j x (by rw [←HLEN.out];exact (Zs hj).1) hj)
    clear HA
    go_wp2_with fail
    (refine Qai ?_;intro w2 hw2)
    have hb2:Below w1.heap.size w1 w2:=by rw [hw2];exact Qah
    have hQ2:=hQ.below hb2 hQ.lt;have hB2:Blk w2 w1.heap.size 3 (Qcj (Qpv (l.take 0) m)):=by rw [hw2,List.take_zero,Qow];exact Blk.new _ _ _
    have hbw2:=Zb hb1 hb2;have hz12:=hb1.size;clear hw2 hmk
    go_loopw [12] (fun q W=>Below w1.heap.size w1 W∧∃ k:Nat,k≤m∧q=.int .i64 k∧Blk W w1.heap.size 3 (Qcj (Qpv (l.take k) m))) (fun q _=>m-(intOf q).toNat)
    case atStart=>exact ⟨hb2,0,Nat.zero_le _,rfl,hB2⟩
    case round =>
     clear hb2 hB2 hQ2 hbw2;obtain ⟨hbl,k,hk,rfl,hB⟩:=hrel
     by_cases hlt2:k<m
     · obtain ⟨b',o',x,rfl,hx,hcx⟩:=HR1.out.at_ hlt2
       have hxx:=HN.out x (Zm hx);obtain ⟨v,rfl⟩:∃ v:Nat,x=v:=⟨x.toNat,by omega⟩;have hv:v<m:=by omega
       have hcx2:=Zc hbl (Zn _) hcx;have c1:=hB.cellI (Qei (l:=l.take k) hv);have c1f:=hB.frozen v;have d1:=Qvo l k (v:Int);have HBN:=Zh (hB.setI (Qon hx hv));have j1:(0:Int)≤(k:Int):=by omega
       have j2:(k:Int)<(m:Int):=by omega
       have j3:(0:Int)≤(v:Int):=by omega
       have j4:(v:Int)<(m:Int):=by omega
       clear hx hcx hB hxx;generalize (l.take k).countP (fun x=>x == (v:Int))=p at *;have hbn:Below w1.heap.size w1 (wr.setCell ⟨w1.heap.size,v,none⟩ (.int .i64 ((p:Int)+1))):=hbl.setCell (Zn _) _
       go_wp2_with fail
       go_roundw
       case rel=>exact ⟨hbn,k+1,by omega,by go_num,HBN.out⟩
       case measure=>simp [intOf];omega
     · obtain rfl:m=k:=by omega
       rw [Ye (by rw [HLEN.out];exact Zn _)] at hB;have m0:=Qcc l;have m1:=Qch (l:=l) (n:=(m:Int)) (fun x hx=>(HN.out x hx).2) (by omega);obtain ⟨w3,hw3⟩:∃ w3,w3=wr:=⟨_,rfl⟩;subst hw3;have hbw3:=Zb hb1 hbl;have HMO:=Zh (Qsd A m c l w3 (HR.out.below hbw3) (by omega) (fun x hx=>by have:=HN.out x hx;omega));obtain ⟨M,hM⟩:∃ M:Nat,Qar l=M:=⟨(Qar l).toNat,by omega⟩;rw [hM] at HMO m0 m1;have HMM:=Zh hM;clear hM
       go_wp2_with fail
       go_loop [13] (fun q=>∃ k:Nat,k≤M∧q=.int .i64 k∧∀ c:Nat,c<k→(c:Int)∈l) (fun q=>M-(intOf q).toNat)
       case atStart=>exact ⟨0,Nat.zero_le _,rfl,fun _ h=>absurd h (Nat.not_lt_zero _)⟩
       case round =>
        obtain ⟨k,hk,rfl,hall⟩:=hrel;have HA:=Zh hall;clear hall
        go_wp2_with fail
        with_reducible refine HMO.out.mono ?_
        rintro e w' ⟨rfl,rfl⟩
        by_cases hlt3:k<M
        · have hkm:k<m:=by omega
          have c1:=hB.cellI (Qei (l:=l) hkm);have j1:(0:Int)≤(k:Int):=by omega
          have j2:(k:Int)<(m:Int):=by omega
          have HCT:=Zh (show 0<l.countP (fun x=>x == (k:Int))↔(k:Int)∈l from by rw [List.countP_pos_iff];simp)
          generalize l.countP (fun x=>x == (k:Int))=p at *
          by_cases hp:p=0
          · subst hp
            have HC:=Zh (Qid (n:=m) (p:=Qfw ls i) (l:=l) HLEN.out (fun hh=>by
             have:=HCT.out.2 (hh.1.all k (by rw [HMM.out];omega));omega))
            go_wp2_with fail
            go_ret
            exact ⟨Qca HC.out.symm,hbw3⟩
          · have e1:((p:Int) == 0)=false:=by simp;exact hp
            have HP:=Zh (HCT.out.1 (by omega));clear hp
            go_wp2_with fail
            go_round
            case rel=>exact ⟨k+1,by omega,by go_num,fun c hc=>by
             by_cases e:c=k
             · subst e;exact HP.out
             · exact HA.out c (by omega)⟩
            case measure=>simp [intOf];omega
        · obtain rfl:M=k:=by omega
          have HLV:=Zh (show Qfx m l from ⟨HLEN.out,fun x hx=>(HN.out x hx).1,fun x hx=>(HN.out x hx).2,fun c hc=>HA.out c (by rw [HMM.out] at hc;omega)⟩)
          have hQ3:=hQ.below hbl hQ.lt;clear HA HN hB;have q0:=hQ3.cell 0;simp only [Yo,Yn] at q0;have HRw:=Zh (HR.out.below hbw3)
          by_cases hi0:i=0
          · have HC:=Zh (Qlu (n:=m) (p:=Qfw ls i) HLV.out (fun q hq=>by rw [hi0,Qqs] at hq;cases hq))
            have e1:¬((i:Int)+1 > 1):=by omega
            have e2:¬(0<i):=by omega
            have e3:¬((i:Int) > 0):=by omega
            clear hi0;have hb99:Below w3.heap.size w3 w3:=Zr _ _
            by_cases hm0:0<m
            · skip
              exact Kbz
            · skip
              exact Kbz
          · obtain ⟨j,rfl⟩:∃ j,i=j+1:=⟨i-1,by omega⟩
            obtain ⟨bp,op,A',m',c',p,e,hp,hcp,hrp,q1',q2'⟩:=HT.out.at_ (show j<L by omega)
            cases e
            obtain rfl:m=m':=by rw [←hrp.1];exact (HPV.out j p rfl hp).symm
            have HPP:=Zh hp;have HRp:=Zh (hrp.below hbw3);have HCP:=Zh (Zc hbw3 (Zn _) hcp);have i3:((j:Int)+1+1)-2=(j:Int):=by omega
            have i4:(0:Int)≤(j:Int):=by omega
            have i6:(j:Int)<(L:Int):=by omega
            have i7:(j:Int)+1+1 > 1:=by omega
            have HLp:=Zh hrp.1;clear hrp hp hcp q1' hi0
            go_wp2_with fail
            go_loopw [14] (fun q W=>Below w3.heap.size w3 W∧∃ k:Nat,k≤m∧q=.int .i64 k∧∀ (a v:Nat) (x y u z:Int),a<k→p[a]?=some x→p[v]?=some y→l[a]?=some u→l[v]?=some z→x≤y→u≤z) (fun q _=>m-(intOf q).toNat)
            case atStart=>exact ⟨Zr _ _,0,Nat.zero_le _,rfl,fun _ _ _ _ _ _ h=>absurd h (Nat.not_lt_zero _)⟩
            case round =>
             obtain ⟨hbr,k,hk,rfl,hall⟩:=hrel;have HA:=Zh hall;clear hall
             by_cases hlt4:k<m
             · obtain ⟨pb,po,x,rfl,hx,hcx⟩:=HRp.out.at_ hlt4
               obtain ⟨lb,lo,u,rfl,hu,hcu⟩:=HRw.out.at_ hlt4;have k1:(0:Int)≤(k:Int):=by omega
               have k2:(k:Int)<(m:Int):=by omega
               have HX:=Zh hx;have HU:=Zh hu;clear hx hu;obtain ⟨wo,hwo⟩:∃ wo,wo=wr:=⟨_,rfl⟩;subst hwo
               go_wp2_with fail
               go_loopw [15] (fun q W=>Below w3.heap.size w3 W∧∃ v:Nat,v≤m∧q=.int .i64 v∧∀ (v':Nat) (y z:Int),v'<v→p[v']?=some y→l[v']?=some z→x≤y→u≤z) (fun q _=>m-(intOf q).toNat)
               case atStart=>exact ⟨hbr,0,Nat.zero_le _,rfl,fun _ _ _ h=>absurd h (Nat.not_lt_zero _)⟩
               case round =>
                clear hbr;obtain ⟨hbr,v,hv,rfl,hall⟩:=hrel;have HV:=Zh hall;clear hall
                by_cases hlt5:v<m
                · obtain ⟨pb',po',y,e,hy,hcy⟩:=HRp.out.at_ hlt5
                  cases e
                  obtain ⟨lb',lo',z,e,hz,hcz⟩:=HRw.out.at_ hlt5
                  cases e
                  have HY:=Zh hy;have HZ:=Zh hz;have q0':=Zc hbr (Zn _) q0;have hcp':=Zc hbr (Zn _) HCP.out;have hcx':=Zc hbr (Zn _) hcx;have hcu':=Zc hbr (Zn _) hcu;have hcy':=Zc hbr (Zn _) hcy;have hcz':=Zc hbr (Zn _) hcz;have k3:(0:Int)≤(v:Int):=by omega
                  have k4:(v:Int)<(m:Int):=by omega
                  clear hy hz hcy hcz
                  by_cases hxy:x≤y
                  · by_cases huz:u > z
                    · have HC:=Zh (Qid (n:=m) (p:=Qfw ls (j+1)) (l:=l) HLEN.out (fun hh=>by
                       have:=hh.2 p (by rw [Qhb];exact HPP.out) k v x y u z HX.out HY.out HU.out HZ.out hxy;omega))
                      have e1:decide (x≤y)=true:=by simpa using hxy
                      go_wp2_with fail
                      go_quiet (fail)
                      go_wp2_with fail
                      go_ret
                      exact ⟨Qca HC.out.symm,Zb hbw3 (Qax hbr _)⟩
                    · have e1:decide (x≤y)=true:=by simpa using hxy
                      have HO:=Zh huz
                      go_wp2_with fail
                      go_quiet (fail)
                      go_wp2_with fail
                      go_roundw
                      case rel=>exact ⟨Qax hbr _,v+1,by omega,by go_num,fun v' y' z' hv' h1 h2 h3=>by
                       by_cases e:v'=v
                       · subst e
                         rw [HZ.out] at h2
                         cases h2
                         have:=HO.out;omega
                       · exact HV.out v' y' z' (by omega) h1 h2 h3⟩
                      case measure=>simp [intOf];omega
                  · have e1:decide (x≤y)=false:=by simpa using hxy
                    have HO:=Zh hxy
                    go_wp2_with fail
                    go_quiet (fail)
                    go_wp2_with fail
                    go_roundw
                    case rel=>exact ⟨Qax hbr _,v+1,by omega,by go_num,fun v' y' z' hv' h1 h2 h3=>by
                     by_cases e:v'=v
                     · subst e
                       rw [HY.out] at h1
                       cases h1
                       have:=HO.out;omega
                     · exact HV.out v' y' z' (by omega) h1 h2 h3⟩
                    case measure=>simp [intOf];omega
                · obtain rfl:m=v:=by omega
                  go_wp2_with fail
                  go_roundw
                  case rel=>exact ⟨hbr,k+1,by omega,by go_num,fun a v x' y u' z ha h1 h2 h3 h4 h5=>by
                   by_cases e:a=k
                   · subst e
                     rw [HX.out] at h1;rw [HU.out] at h3
                     cases h1
                     cases h3
                     exact HV.out v y z (by rw [←HLp.out];exact (Zs h2).1) h2 h4 h5
                   · exact HA.out a v x' y u' z (by omega) h1 h2 h3 h4 h5⟩
                  case measure=>simp [intOf];omega
             · obtain rfl:m=k:=by omega
               have HC:=Zh (Qlu (n:=m) (p:=Qfw ls (j+1)) HLV.out (fun q hq=>by
                rw [Qhb,HPP.out] at hq
                cases hq
                intro a v x y u z h1 h2 h3 h4 h5;exact HA.out a v x y u z (by rw [←HLp.out];exact (Zs h1).1) h1 h2 h3 h4 h5))
               clear HA
               go_wp2_with fail
               have hb99:=hbr
               exact Kay
end Go.Proofs.YtdheeddnkdhfeaaGreatDoor
