/- Parts of the proof: AsV, LpG, AsI, Yo, AsK, Pd, RoG. -/
import Derived.Test.YtdheeddnkdhfeaaGreatDoorH18
namespace Go.Proofs.YtdheeddnkdhfeaaGreatDoor
open Go.RowKit Go.Proofs.Tryz
theorem Qhy {N:Qam} {ls:List (List Int)} (hok:Qap N) (hP:Qat N.vs.length ls) {j a b:Nat} {l:List Int} {y z:Tri} (hl:ls[j]?=some l) (hy:N.ar[a]?=some y) (hz:N.ar[b]?=some z)
 (h1:Qaa l y.1≠Qaa l y.2.1) (h2:Qaa l z.1=Qaa l y.2.1) (h3:Qaa l z.2.1≠Qaa l y.2.1) :
 ∃ (c p q k:Nat) (x:Qan),Qaa l y.2.1=(c:Int)∧(Qaf N.ar l)[c]?=some x∧plI x.1 (a:Int)=(p:Int)∧plI x.2 (b:Int)=(q:Int)∧x.1[p]?=some (a:Int)∧x.2[q]?=some (b:Int)∧Qfs N ls k j l c x p q a b:=by obtain ⟨u,v,_,e3,_,hv⟩:=Qda hok hy;obtain ⟨c,hc,hcm,_⟩:=Qcm (hP.lvl l (Zm hl)) hv;rw [←e3] at hc;obtain ⟨x,hx⟩:∃ x,(Qaf N.ar l)[c]?=some x:=⟨_,Qco hcm⟩;rw [hc] at h1 h2 h3;obtain ⟨p,hp,hp2⟩:=Qgn ((Qcw hx).2 ⟨y,hy,h1,hc⟩);obtain ⟨q,hq,hq2⟩:=Qgn ((Qbr hx).2 ⟨z,hz,h2,h3⟩);exact ⟨c,p,q,_,x,hc,hx,hp,hq,hp2,hq2,hl,hx,hp2,hq2,rfl⟩
attribute [local go_sem ↓] Go.wp_at_zero Go.wp_at_succ
def Qen (N:Qam) (ls:List (List Int)) (lv a:Int):Option (Int×Int) :=
 if 1≤lv∧lv≤(ls.length:Int)∧0≤a∧a<(N.ar.length:Int) then
  (if Qaa (ls.getD (lv-1).toNat []) (N.ar.getD a.toNat (0,0,0)).1=Qaa (ls.getD (lv-1).toNat []) (N.ar.getD a.toNat (0,0,0)).2.1 then none
   else some (Qaa (ls.getD (lv-1).toNat []) (N.ar.getD a.toNat (0,0,0)).1,Qaa (ls.getD (lv-1).toNat []) (N.ar.getD a.toNat (0,0,0)).2.1)) else none
def enF (N:Qam) (ls:List (List Int)) (lv a:Int):Int:=match Qen N ls lv a with|none=>-1|some p=>p.2
def leF (N:Qam) (ls:List (List Int)) (lv a:Int):Int:=match Qen N ls lv a with|none=>-1|some p=>p.1
section
variable {N:Qam} {ls:List (List Int)}
theorem Qee {j a:Nat}{l:List Int}{y:Tri} (hl:ls[j]?=some l) (hy:N.ar[a]?=some y):Qen N ls ((j:Int)+1) (a:Int)=if Qaa l y.1=Qaa l y.2.1 then none else some (Qaa l y.1,Qaa l y.2.1):=by
 have h1:=(Zs hl).1;have h2:=(Zs hy).1;unfold Qen;rw [if_pos ⟨by omega,by omega,by omega,by omega⟩];have e1:ls.getD ((j:Int)+1-1).toNat []=l:=by rw [show ((j:Int)+1-1).toNat=j by omega,Ya,hl];rfl
 have e2:N.ar.getD ((a:Int)).toNat (0,0,0)=y:=by rw [Yl,Ya,hy];rfl
 rw [e1,e2]
theorem Qgr {lv a:Int} (h:¬(1≤lv∧lv≤(ls.length:Int)∧0≤a∧a<(N.ar.length:Int))):Qen N ls lv a=none:=by unfold Qen;rw [if_neg h]
theorem Qfw {lv a:Int}{p:Int×Int}(h:Qen N ls lv a=some p):∃ (j b:Nat) (l:List Int) (y:Tri),lv=(j:Int)+1∧a=(b:Int)∧ls[j]?=some l∧N.ar[b]?=some y∧Qaa l y.1≠Qaa l y.2.1∧p=(Qaa l y.1,Qaa l y.2.1):=by
 by_cases h1:1≤lv∧lv≤(ls.length:Int)∧0≤a∧a<(N.ar.length:Int)
 {obtain ⟨j,rfl⟩:∃ j:Nat,lv=(j:Int)+1:=⟨(lv-1).toNat,by omega⟩;obtain ⟨b,rfl⟩:∃ b:Nat,a=(b:Int):=⟨a.toNat,by omega⟩;obtain ⟨l,hl⟩:∃ l,ls[j]?=some l:=⟨_,Zg (by omega)⟩;obtain ⟨y,hy⟩:∃ y,N.ar[b]?=some y:=⟨_,Zg (by omega)⟩;rw [Qee hl hy] at h;(split at h);{cases h};{rename_i hne;exact ⟨j,b,l,y,rfl,rfl,hl,hy,hne,(Yv h).symm⟩}};{rw [Qgr h1] at h;cases h}
theorem Qxu {lv f t:Int}(h0:0≤enF N ls lv f)(h1:leF N ls lv t=enF N ls lv f):∃ (a b j:Nat) (l:List Int) (y z:Tri),f=(a:Int)∧t=(b:Int)∧lv=(j:Int)+1∧ls[j]?=some l∧N.ar[a]?=some y∧N.ar[b]?=some z∧Qaa l y.1≠Qaa l y.2.1∧Qaa l z.1=Qaa l y.2.1∧Qaa l z.2.1≠Qaa l y.2.1∧enF N ls lv f=Qaa l y.2.1:=by
 cases hc:Qen N ls lv f with
 | none=>unfold enF at h0;rw [hc] at h0;simp at h0
 | some p =>
  obtain ⟨j,a,l,y,rfl,rfl,hl,hy,hne,rfl⟩:=Qfw hc;have e1:enF N ls ((j:Int)+1) (a:Int)=Qaa l y.2.1:=by unfold enF;rw [hc]
  cases hd:Qen N ls ((j:Int)+1) t with
  | none=>rw [e1] at h1 h0;unfold leF at h1;rw [hd] at h1;simp only at h1;omega
  | some q =>(obtain ⟨j',b,l',z,e2,rfl,hl',hz,hne',rfl⟩:=Qfw hd;obtain rfl:j=j':=by omega);rw [hl] at hl';cases hl';(have e3:leF N ls ((j:Int)+1) (b:Int)=Qaa l z.1:=by unfold leF;rw [hd]);rw [e1,e3] at h1;exact ⟨a,b,j,l,y,z,rfl,rfl,rfl,hl,hy,hz,hne,h1,fun e=>hne' (by rw [h1,e]),e1⟩
end
theorem gFrom_no (g:Nat)(N:Qam)(a:Int)(w:World)(h:Qfh w g N) (ha:¬(0≤a∧a<(N.ar.length:Int))):Calls prog 143 #[.pointer (some ⟨g,0,none⟩),.int .i64 a] w fun e w'=>e=.returned (.int .i64 (-1))∧w=w':=by
 have HA:=Zh (Qxd g N a w h ha);clear h ha;go_enter func143,ntmps143
 exact Kcy
theorem gTo_no (g:Nat)(N:Qam)(a:Int)(w:World)(h:Qfh w g N) (ha:¬(0≤a∧a<(N.ar.length:Int))):Calls prog 144 #[.pointer (some ⟨g,0,none⟩),.int .i64 a] w fun e w'=>e=.returned (.int .i64 (-1))∧w=w':=by
 have HA:=Zh (Qxd g N a w h ha);clear h ha;go_enter func144,ntmps144
 exact Kcy
def Qrb (N:Qam) (ls:List (List Int)) (lv a:Int):Ending:=.returned (.tuple #[.int .i64 (leF N ls lv a),.int .i64 (enF N ls lv a)])
set_option maxHeartbeats 2000000 in
theorem Qpe (w:World)(g:Nat)(N:Qam) (ls:List (List Int)) (Q:Option Addr) (L cq:Nat) (lv a:Int) (hg:Qfh w g N) (hq:RdT w Q L ls) (hok:Qap N) (hP:Qat N.vs.length ls) :
 Calls prog 115 #[.pointer (some ⟨g,0,none⟩),.agg #[.slice Q L cq],.int .i64 lv,.int .i64 a] w fun e w'=>e=Qrb N ls lv a∧Below w.heap.size w w':=by
 have hL:=hq.1;have HNO:=Zh (fun (h:¬(1≤lv∧lv≤(ls.length:Int)∧0≤a∧a<(N.ar.length:Int)))=>(show (Ending.returned (.tuple #[.int .i64 (-1),.int .i64 (-1)]):Ending)=Qrb N ls lv a by unfold Qrb leF enF;rw [Qgr h]));by_cases i1:lv<1
 {have HE:=Zh (HNO.out (by omega));clear hg hq hok hP hL HNO;(go_enter func115,ntmps115);exact Kas};by_cases i2:(L:Int)<lv
 {have HE:=Zh (HNO.out (by omega));clear hg hq hok hP hL HNO;(go_enter func115,ntmps115);exact Kas};obtain ⟨j,rfl⟩:∃ j:Nat,lv=(j:Int)+1:=⟨(lv-1).toNat,by omega⟩;obtain ⟨qb,qo,A',n',c',l,rfl,hl,q1,q2,q3,q4⟩:=hq.at_ (i:=j) (by omega);have hln:=(hP.lvl l (Zm hl)).len;have hn':n'=N.vs.length:=by rw [←q2.1];exact hln
 have hL6:=hP.l6;have i3:(j:Int)+1-1=j:=by omega
 have i4:0≤(j:Int):=by omega
 have i5:(j:Int)<L:=by omega
 have wj:IntKind.i64.wrap (j:Int)=(j:Int):=IntWalk.i64_in _ (by omega);have hb1:Below w.heap.size w (w.alloc (.cells #[.slice (some ⟨qb,qo,none⟩) L cq] 132)):=Qah;by_cases ha:0≤a∧a<(N.ar.length:Int)
 · obtain ⟨b,rfl⟩:∃ b:Nat,a=(b:Int):=⟨a.toNat,by omega⟩;obtain ⟨y,hy⟩:∃ y,N.ar[b]?=some y:=⟨_,Zg (by omega)⟩;obtain ⟨u,v,e1,e2,hu,hv⟩:=Qda hok hy;have HF:=Zh (Qgs g b N y _ (hg.below hb1) hy);have HT:=Zh (Qfj g b N y _ (hg.below hb1) hy);rw [e1] at HF;rw [e2] at HT;obtain ⟨rb,ro,zu,rfl,hzu,cu⟩:=q2.at_ (i:=u) (by omega);obtain ⟨_,_,zv,er,hzv,cv⟩:=q2.at_ (i:=v) (by omega);cases er
   have HE:=Zh (show Qrb N ls ((j:Int)+1) (b:Int)=if zu=zv then .returned (.tuple #[.int .i64 (-1),.int .i64 (-1)]) else .returned (.tuple #[.int .i64 zu,.int .i64 zv]) from by
    unfold Qrb leF enF;rw [Qee hl hy,e1,e2,Qba hzu,Qba hzv]
    by_cases e:zu=zv
    · rw [if_pos e,if_pos e]
    · rw [if_neg e,if_neg e])
   (have k1:=Zc hb1 (Zn _) q1;have k2:=Zc hb1 (Zn _) cu;have k3:=Zc hb1 (Zn _) cv;have p0:decide ((u:Int)<0)=false:=by simp);(have p1:decide ((v:Int)<0)=false:=by simp);(have p2:decide (n'≤u)=false:=by simp;omega);(have p3:decide (n'≤v)=false:=by simp;omega);(have p4:0≤(u:Int):=by omega);(have p5:0≤(v:Int):=by omega);(have p6:(u:Int)<n':=by omega);(have p7:(v:Int)<n':=by omega);have HSX:=Zh (show ∀ V,V=(w.alloc (.cells #[.slice (some ⟨qb,qo,none⟩) L cq] 132)).drew→V.cell? ⟨rb,ro+u,none⟩=some (.int .i64 zu)∧V.cell? ⟨rb,ro+v,none⟩=some (.int .i64 zv) from fun V e=>by subst e;exact ⟨k2,k3⟩);clear hg hq hok hP hl hy hu hv hzu hzv e1 e2 q1 q2 cu cv hb1 ha hln hn' HNO;(go_enter func115,ntmps115);(go_wp2_with fail);(with_reducible refine HF.out.mono ?_);rintro e w' ⟨rfl,rfl⟩;(go_wp2_with fail);(with_reducible refine HT.out.mono ?_);rintro e w' ⟨rfl,rfl⟩;(go_wp2_with fail);refine wp_region_held_drew (S:=fun V=>V=(w.alloc (.cells #[.slice (some ⟨qb,qo,none⟩) L cq] 132)).drew) (by kernel_rfl) rfl (fun _=>?_);by_cases e:zu=zv;{have HE:=Zh ((HE.out.trans (if_pos e)).symm);(have e4:(zu == zv)=true:=by simp [e]);refine tzd 0 34 ?_;refine tzd 4 38 ?_;refine tzd 8 42 ?_;refine tzd 12 46 ?_;refine tzd 16 50 ?_;refine tzd 20 54 ?_;refine tzd 24 58 ?_;refine tz 28 62 ?_;refine Zd ?_;exact Kas};{have HE:=Zh ((HE.out.trans (if_neg e)).symm);(have e4:(zu == zv)=false:=by simp [e]);refine tzd 0 34 ?_;refine tzd 4 38 ?_;refine tzd 8 42 ?_;refine tzd 12 46 ?_;refine tzd 16 50 ?_;refine tzd 20 54 ?_;refine tzd 24 58 ?_;refine tz 28 62 ?_;refine Zd ?_;clear HSX;have HSX:=Zh (show ∀ V,V=(w.alloc (.cells #[.slice (some ⟨qb,qo,none⟩) L cq] 132)).drew.drew→V.cell? ⟨rb,ro+u,none⟩=some (.int .i64 zu)∧V.cell? ⟨rb,ro+v,none⟩=some (.int .i64 zv) from fun V e=>by subst e;exact ⟨k2,k3⟩);(go_wp2_with fail);refine wp_region_held_drew (S:=fun V=>V=(w.alloc (.cells #[.slice (some ⟨qb,qo,none⟩) L cq] 132)).drew.drew) (by kernel_rfl) rfl (fun _=>?_);refine tzd 0 63 ?_;refine tzd 4 67 ?_;refine tzb 8 8 ?_;refine Zd ?_;(go_wp2_with fail);refine bodyPost_ret (v:=.tuple #[.int .i64 zu,.int .i64 zv]) (by simp [results,results115,go_sem]) rfl ?_;exact ⟨HE.out,Qah⟩}
 {have HF:=Zh (gFrom_no g N a _ (hg.below hb1) ha);have HT:=Zh (gTo_no g N a _ (hg.below hb1) ha);have HE:=Zh (HNO.out (by omega));have k1:=Zc hb1 (Zn _) q1;clear hg hq hok hP hl q1 q2 hb1 ha hln hn' HNO;(go_enter func115,ntmps115);(go_wp2_with fail);(with_reducible refine HF.out.mono ?_);rintro e w' ⟨rfl,rfl⟩;(go_wp2_with fail);(with_reducible refine HT.out.mono ?_);rintro e w' ⟨rfl,rfl⟩;(go_wp2_with fail);refine wp_region_held_drew (S:=fun V=>V=(w.alloc (.cells #[.slice (some ⟨qb,qo,none⟩) L cq] 132)).drew) (by kernel_rfl) rfl (fun _=>?_);refine tzb 0 34 ?_;refine tz 2 36 ?_;refine tw 3 37 ?_;refine tw 4 38 ?_;refine tzb 5 39 ?_;refine tw 7 41 ?_;refine tw 8 42 ?_;refine tw 9 43 ?_;refine tw 10 44 ?_;refine tzb 11 45 ?_;refine tw 13 47 ?_;refine tw 14 48 ?_;refine tw 15 49 ?_;refine tw 16 50 ?_;refine tzb 17 51 ?_;refine tw 19 53 ?_;refine tw 20 54 ?_;refine tw 21 55 ?_;refine tw 22 56 ?_;refine tw 23 57 ?_;refine tw 24 58 ?_;refine tw 25 59 ?_;refine tw 26 60 ?_;refine tw 27 61 ?_;refine tz 28 62 ?_;refine Zd ?_;exact Kas}
theorem Qrf (w:World)(g:Nat)(N:Qam) (ls:List (List Int)) (Q:Option Addr) (L cq:Nat) (lv a:Int) (hg:Qfh w g N) (hq:RdT w Q L ls) (hok:Qap N) (hP:Qat N.vs.length ls) :
 Calls prog 59 #[.pointer (some ⟨g,0,none⟩),.agg #[.slice Q L cq],.int .i64 lv,.int .i64 a] w fun e w'=>e=.returned (.int .i64 (enF N ls lv a))∧Below w.heap.size w w':=by
 have hb1:Below w.heap.size w (w.alloc (.cells #[.slice Q L cq] 132)):=Qah;have HE:=Zh (Qpe _ g N ls Q L cq lv a (hg.below hb1) (hq.below hb1) hok hP);clear hg hq hok hP;go_enter func59,ntmps59
 exact Kbx
theorem Qrg (w:World)(g:Nat)(N:Qam) (ls:List (List Int)) (Q:Option Addr) (L cq:Nat) (lv a:Int) (hg:Qfh w g N) (hq:RdT w Q L ls) (hok:Qap N) (hP:Qat N.vs.length ls) :
 Calls prog 60 #[.pointer (some ⟨g,0,none⟩),.agg #[.slice Q L cq],.int .i64 lv,.int .i64 a] w fun e w'=>e=.returned (.int .i64 (leF N ls lv a))∧Below w.heap.size w w':=by
 have hb1:Below w.heap.size w (w.alloc (.cells #[.slice Q L cq] 132)):=Qah;have HE:=Zh (Qpe _ g N ls Q L cq lv a (hg.below hb1) (hq.below hb1) hok hP);clear hg hq hok hP;go_enter func60,ntmps60
 exact Kbx
theorem Qcq (k c:Int)(w:World):Calls prog 57 #[.int .i64 k,.int .i64 c] w fun e w'=>∃ v,e=.returned v∧Qcj w' v [((⟨#[108,101,97,112]⟩:ByteArray),k)] c∧Below w.heap.size w w':=by
 go_enter func57,ntmps57
 go_wp2;go_ret;refine ⟨_,rfl,⟨w.heap.size,0,Qpb c,rfl,?_,?_,?_,rfl⟩,Qah⟩;all_goals simp
def Qez (N:Qam) (ls:List (List Int)) (NC S:Nat) (lv f t k c:Int):Prop :=
 ((lv<1∨(ls.length:Int)<lv)∧k=0∧c=1)∨((1≤lv∧lv≤(ls.length:Int))∧NC≠S∧k=1∧c=1)∨((1≤lv∧lv≤(ls.length:Int))∧NC=S∧enF N ls lv f<0∧k=2∧c=5) ∨
 ((1≤lv∧lv≤(ls.length:Int))∧NC=S∧0≤enF N ls lv f∧leF N ls lv t≠enF N ls lv f∧k=3∧c=5) ∨
 (NC=S∧(∃ (a b j:Nat) (l:List Int) (y z:Tri),f=(a:Int)∧t=(b:Int)∧lv=(j:Int)+1∧ls[j]?=some l∧N.ar[a]?=some y∧N.ar[b]?=some z∧Qaa l y.1≠Qaa l y.2.1∧Qaa l z.1=Qaa l y.2.1∧Qaa l z.2.1≠Qaa l y.2.1∧Qet N (Qbv l (Qaa l y.2.1)) a b 1152921504606846976)∧k=4∧c=12)
def LpR (N:Qam) (ls:List (List Int)) (NC S:Nat) (lv f t:Int) (e:Ending) (w':World):Prop :=
 (∃ k c v,Qez N ls NC S lv f t k c∧e=.returned (.tuple #[.slice none 0 0,v])∧Qcj w' v [((⟨#[108,101,97,112]⟩:ByteArray),k)] c) ∨
 (∃ (A:Option Addr) (n cc:Nat) (L:List Nat) (a b j c:Nat) (l:List Int) (v:Int),NC=S∧f=(a:Int)∧t=(b:Int)∧lv=(j:Int)+1∧ls[j]?=some l∧Qgz N l c a b v∧e=.returned (.tuple #[.slice A n cc,.nilIface])∧Opn N (Qbv l c) a b v L∧RdI w' A n (nis (a::L))∧n≤1000000000∧n≤cc∧cc≤9223372036854775807)
set_option maxRecDepth 20000 in
set_option maxHeartbeats 4000000 in
theorem Qkt (w:World)(g o:Nat)(N:Qam) (ls:List (List Int)) (CA:Option Addr) (NC cC S:Nat) (cl:List Int) (lv f t:Int) (hg:Qfh w g N) (ho:Qgh w o N.ar ls) (hc:RdI w CA NC cl) (hok:Qap N) (hP:Qat N.vs.length ls) (hS:S=Qbw (Qae N.ar ls)) (hA:NC=S→Qct N ls cl) (hcc:NC≤cC∧cC≤9223372036854775807) (hSm:S≤1000000000) :
 Calls prog 21 #[.pointer (some ⟨g,0,none⟩),.pointer (some ⟨o,0,none⟩),.slice CA NC cC,.int .i64 lv,.int .i64 f,.int .i64 t] w fun e w'=>LpR N ls NC S lv f t e w'∧Below w.heap.size w w':=by
 have HLS:=Zh (fun V (hV:Below w.heap.size w V)=>Qhk o N.ar ls V (ho.below hV));have HSZ:=Zh (fun V (hV:Below w.heap.size w V)=>(show Calls prog 48 #[.pointer (some ⟨o,0,none⟩)] V fun e w'=>e=.returned (.int .i64 (S:Nat))∧V=w' by rw [hS];exact Qic o N.ar ls V (ho.below hV)));obtain ⟨L,hL⟩:=Zx ls.length;rw [←hL] at HLS;by_cases hlo:lv<1
 {have HBAD:=Zh (show Qez N ls NC S lv f t 0 1 from .inl ⟨.inl hlo,rfl,rfl⟩);clear hg ho hc hok hP hS hA hcc hSm hL HLS HSZ;(go_enter func21,ntmps21);exact Kaf};have hL6:L≤6:=by rw [hL];exact hP.l6
 by_cases hhi:(L:Int)<lv
 {have HBAD:=Zh (show Qez N ls NC S lv f t 0 1 from .inl ⟨.inr (by omega),rfl,rfl⟩);clear hg ho hc hok hP hS hA hcc hSm hL HSZ;exact Kci};have hin:1≤lv∧lv≤(ls.length:Int):=by omega
 by_cases hns:NC=S;rotate_left;{have HBAD:=Zh (show Qez N ls NC S lv f t 1 1 from .inr (.inl ⟨hin,hns,rfl,rfl⟩));(have hns2:¬(NC:Int)=S:=by omega);clear hg ho hc hok hP hS hA hcc hSm hL hin hns;exact Kbm};have hA:=hA hns;have HNS:=Zh hns;have hns2:(NC:Int)=S:=by omega
 have HPT:=Zh (fun V (hV:Below w.heap.size w V)=>Qkr o N.ar ls V (ho.below hV) (by omega) (fun l hl=>by have:=(hP.lvl l hl).len;have:=hok.lv;omega));rw [←hL] at HPT;have HEN:=Zh (fun V (hV:Below w.heap.size w V) Q cq (hq:RdT V Q L ls)=>Qrf V g N ls Q L cq lv f (hg.below hV) hq hok hP);have HLE:=Zh (fun V (hV:Below w.heap.size w V) Q cq (hq:RdT V Q L ls)=>Qrg V g N ls Q L cq lv t (hg.below hV) hq hok hP);by_cases h0:enF N ls lv f<0
 {have HBAD:=Zh (show Qez N ls NC S lv f t 2 5 from .inr (.inr (.inl ⟨hin,hns,h0,rfl,rfl⟩)));obtain ⟨ev,hev⟩:=Zx (enF N ls lv f);rw [←hev] at h0 HEN;clear hg ho hc hok hP hS hA hcc hSm hL hin hev HLE hns;(go_enter func21,ntmps21);(go_wp2_with fail);(with_reducible refine (HLS.out w (Zr _ _)).mono ?_);rintro r w' ⟨rfl,rfl⟩;(go_wp2_with fail);(with_reducible refine (HSZ.out w (Zr _ _)).mono ?_);rintro r w' ⟨rfl,rfl⟩;(go_wp2_with fail);(with_reducible refine (HPT.out w (Zr _ _)).mono ?_);rintro r w1 ⟨Q,cq,rfl,hQ,hb1⟩;have HQ1:=Zh (hQ.le (Qau _ _));have HB1:=Zh hb1;clear hQ hb1 HPT;(go_wp2_with fail);(refine Qac ?_;intro w2 hw2);(have hb2:Below w1.heap.size w1 w2:=by rw [hw2];exact Qah);have HP2:=Zh (show Blk w2 w1.heap.size 132 #[.slice Q L cq] by rw [hw2];exact Blk.new _ _ _);(have HB2:=Zh (Zb HB1.out hb2);have HQ2:=Zh (HQ1.out.below hb2);clear hw2 hb2;with_reducible refine (HEN.out w2 HB2.out Q cq HQ2.out).mono ?_);rintro r w3 ⟨rfl,hb3⟩;have HB3:=Zh (Zb HB2.out hb3);have HQ3:=Zh (HQ2.out.below hb3);have HP3:=Zh (HP2.out.below hb3 HP2.out.lt);have y0:w3.cell? ⟨w1.heap.size,0,none⟩=some (.slice Q L cq):=Zq HP3.out;clear hb3 HEN;(go_wp2_with fail);(clear y0;with_reducible refine (Qcq _ _ _).mono ?_);rintro r wf ⟨vf,rfl,hcf,hbf⟩;obtain ⟨tf,xf,rfl⟩:=Qbd hcf;have HCF:=Zh hcf;clear hcf;(go_wp2_with fail);refine bodyPost_ret (v:=.tuple #[.slice none 0 0,.iface tf xf]) (by simp [results,results21,go_sem]) rfl ?_;exact ⟨.inl ⟨_,_,_,HBAD.out,rfl,HCF.out⟩,(Zb HB3.out hbf)⟩};by_cases h1:leF N ls lv t=enF N ls lv f;rotate_left;{have HBAD:=Zh (show Qez N ls NC S lv f t 3 5 from .inr (.inr (.inr (.inl ⟨hin,hns,by omega,h1,rfl,rfl⟩))));(obtain ⟨ev,hev⟩:=Zx (enF N ls lv f);obtain ⟨lw,hlw⟩:∃ ev,ev=leF N ls lv t:=⟨_,rfl⟩;rw [←hev] at h0 h1 HEN;rw [←hlw] at h1 HLE;have h2:(lw != ev)=true:=by simpa using h1);clear hg ho hc hok hP hS hA hcc hSm hL hin hev hlw hns;(go_enter func21,ntmps21);(go_wp2_with fail);(with_reducible refine (HLS.out w (Zr _ _)).mono ?_);rintro r w' ⟨rfl,rfl⟩;(go_wp2_with fail);(with_reducible refine (HSZ.out w (Zr _ _)).mono ?_);rintro r w' ⟨rfl,rfl⟩;(go_wp2_with fail);(with_reducible refine (HPT.out w (Zr _ _)).mono ?_);rintro r w1 ⟨Q,cq,rfl,hQ,hb1⟩;have HQ1:=Zh (hQ.le (Qau _ _));have HB1:=Zh hb1;clear hQ hb1 HPT;(go_wp2_with fail);(refine Qac ?_;intro w2 hw2);(have hb2:Below w1.heap.size w1 w2:=by rw [hw2];exact Qah);have HP2:=Zh (show Blk w2 w1.heap.size 132 #[.slice Q L cq] by rw [hw2];exact Blk.new _ _ _);(have HB2:=Zh (Zb HB1.out hb2);have HQ2:=Zh (HQ1.out.below hb2);clear hw2 hb2;with_reducible refine (HEN.out w2 HB2.out Q cq HQ2.out).mono ?_);rintro r w3 ⟨rfl,hb3⟩;have HB3:=Zh (Zb HB2.out hb3);have HQ3:=Zh (HQ2.out.below hb3);have HP3:=Zh (HP2.out.below hb3 HP2.out.lt);have y0:w3.cell? ⟨w1.heap.size,0,none⟩=some (.slice Q L cq):=Zq HP3.out;clear hb3 HEN;(go_wp2_with fail);(with_reducible refine (HLE.out w3 HB3.out Q cq HQ3.out).mono ?_);rintro r w4 ⟨rfl,hb4⟩;have HB4:=Zh (Zb HB3.out hb4);clear hb4 y0 HLE;(go_wp2_with fail);(with_reducible refine (Qcq _ _ _).mono ?_);rintro r wf ⟨vf,rfl,hcf,hbf⟩;obtain ⟨tf,xf,rfl⟩:=Qbd hcf;have HCF:=Zh hcf;clear hcf;(go_wp2_with fail);refine bodyPost_ret (v:=.tuple #[.slice none 0 0,.iface tf xf]) (by simp [results,results21,go_sem]) rfl ?_;exact ⟨.inl ⟨_,_,_,HBAD.out,rfl,HCF.out⟩,(Zb HB4.out hbf)⟩};rw [h1] at HLE;obtain ⟨a,b,j,l,y,z,rfl,rfl,rfl,hl,hy,hz,g1,g2,g3,g4⟩:=Qxu (by omega) h1;obtain ⟨cc,p,q,kk,x,hcx,hx,hp,hq,hp2,hq2,hI⟩:=Qhy hok hP hl hy hz g1 g2 g3;obtain ⟨v,hv,hE⟩:=hA.at_ hI;have hvb:=hE.bd hok;rw [hcx] at g4;rw [g4] at HEN HLE;have hkn:kk<NC:=by rw [←hc.1];exact (Zs hv).1
 have hgl:=Qbl hx;have hla:=hok.la;have HGA:=Zh (fun V (hV:Below w.heap.size w V)=>oGate_ok o j cc N.ar ls l x V (ho.below hV) hl (by omega) hx (by omega));have HPI:=Zh (fun (A1:Option Addr) (n1 c1:Nat) V (hV:RdI V A1 n1 x.1)=>hp▸Qdt A1 n1 c1 x.1 (a:Int) V hV (Qdu hx) (by rw [←hV.1];omega));have HPO:=Zh (fun (A1:Option Addr) (n1 c1:Nat) V (hV:RdI V A1 n1 x.2)=>hq▸Qdt A1 n1 c1 x.2 (b:Int) V hV (Qev hx) (by rw [←hV.1];omega));have HAT:=Zh (fun V (hV:Below w.heap.size w V)=>hI.hk.symm▸at_ok o j cc p q N.ar ls l x V (ho.below hV) hl hx (Zs hp2).1 (Zs hq2).1 (by omega) (by omega))
 have HNO:=Zh (fun (V:World) (hV:Below w.heap.size w V) =>
  have hle:Le w (msk V (fun b=>b<V.heap.size)):=Le.mskBelow hV (fun b hb=>Yu hb hV.size)
  Qiy V V.heap.size g o N ls CA NC cC cl (Zn _) (hg.le hle) (ho.le hle) (hc.le hle) hok hP hA hcc (by omega))
 have HBAD:=Zh (fun (hi:v=1152921504606846976)=>(show Qez N ls NC S ((j:Int)+1) (a:Int) (b:Int) 4 12 from .inr (.inr (.inr (.inr ⟨hns,⟨a,b,j,l,y,z,rfl,rfl,rfl,hl,hy,hz,g1,g2,g3,by rw [hcx,←hi];exact hE⟩,rfl,rfl⟩)))));have HLP:=Zh (fun (hi:v≠1152921504606846976)=>(show Qgz N l cc a b v from ⟨⟨y,hy,by rw [←hcx];exact g1,hcx⟩,⟨z,hz,by rw [←hcx];exact g2,by rw [←hcx];exact g3⟩,hE,hi⟩));have HLL:=Zh hl;have HNL:=Zh hla;obtain ⟨cb,co,v',rfl,hv',cv⟩:=hc.at_ hkn;rw [hv] at hv';cases hv';have HCV:=Zh cv;have k3:(kk:Int)<NC:=by omega
 have k4:0≤(kk:Int):=by omega
 have k5:¬(kk:Int)<0:=by omega
 have h0:¬(cc:Int)<0:=by omega
 have h2:((cc:Int) != (cc:Int))=false:=by simp
 obtain ⟨J,hJ⟩:=Zx (j+1);have HJ:=Zh hJ;have hJL:(J:Int)≤L:=by omega
 have hJ1:¬(J:Int)<1:=by omega
 have hJ2:¬(L:Int)<J:=by omega
 have hJe:(j:Int)+1=J:=by omega
 simp only [hJe] at HEN HLE HGA HAT HBAD ⊢;clear hg ho hc hok hP hS hA hcc hSm hL hin h1 g1 g2 g3 g4 hcx hx hp hq hp2 hq2 hI hv cv hl hy hz hgl hla hkn hhi hlo hE hJ hJe hns;go_enter func21,ntmps21
 go_wp2_with fail
 with_reducible refine (HLS.out w (Zr _ _)).mono ?_
 rintro r w' ⟨rfl,rfl⟩;go_wp2_with fail
 with_reducible refine (HSZ.out w (Zr _ _)).mono ?_
 rintro r w' ⟨rfl,rfl⟩;go_wp2_with fail
 with_reducible refine (HPT.out w (Zr _ _)).mono ?_
 rintro r w1 ⟨Q,cq,rfl,hQ,hb1⟩;have HQ1:=Zh (hQ.le (Qau _ _));have HB1:=Zh hb1;clear hQ hb1 HPT;go_wp2_with fail
 (refine Qac ?_;intro w2 hw2);have hb2:Below w1.heap.size w1 w2:=by rw [hw2];exact Qah
 have HP2:=Zh (show Blk w2 w1.heap.size 132 #[.slice Q L cq] by rw [hw2];exact Blk.new _ _ _);have HB2:=Zh (Zb HB1.out hb2);have HQ2:=Zh (HQ1.out.below hb2);clear hw2 hb2;with_reducible refine (HEN.out w2 HB2.out Q cq HQ2.out).mono ?_
 rintro r w3 ⟨rfl,hb3⟩;have HB3:=Zh (Zb HB2.out hb3);have HQ3:=Zh (HQ2.out.below hb3);have HP3:=Zh (HP2.out.below hb3 HP2.out.lt);have y0:w3.cell? ⟨w1.heap.size,0,none⟩=some (.slice Q L cq):=Zq HP3.out;clear hb3 HEN;go_wp2_with fail
 with_reducible refine (HLE.out w3 HB3.out Q cq HQ3.out).mono ?_
 rintro r w4 ⟨rfl,hb4⟩;have HB4:=Zh (Zb HB3.out hb4);clear hb4 y0 HLE;go_wp2_with fail
 with_reducible refine (HGA.out w4 HB4.out).mono ?_
 rintro r w7 ⟨A1,n1,c1,A2,n2,c2,rfl,h71,h72,hb7⟩;have HB7:=Zh (Zb HB4.out hb7);clear hb7 HGA;go_wp2_with fail
 (refine Qaj ?_;intro w8 hw8);have hb8:Below w7.heap.size w7 w8:=by rw [hw8];exact Qah
 have hG8:Blk w8 w7.heap.size 135 #[.slice A1 n1 c1,.slice A2 n2 c2]:=by rw [hw8];exact Blk.new _ _ _
 clear hw8;have HB8:=Zh (Zb HB7.out hb8);have HI8:=Zh (h71.below hb8);have HJ8:=Zh (h72.below hb8)
 have HSX:=Zh (show ∀ V,Below w8.heap.size w8 V→V.cell? ⟨w7.heap.size,0,none⟩=some (.slice A1 n1 c1)∧V.cell? ⟨w7.heap.size,1,none⟩=some (.slice A2 n2 c2) from fun V hV=>by
  have hG':=hG8.below hV hG8.lt;exact ⟨Zq hG',Zq hG'⟩)
 clear hb8 h71 h72 hG8;refine wp_region_held_drew (S:=fun V=>Below w8.heap.size w8 V) (by kernel_rfl) (Zr _ _).drew (fun _=>?_);refine tzd 0 57 ?_;refine tzb 4 61 ?_;refine tzb 7 64 ?_;refine tz 9 66 ?_;refine Zk 6 (fun K hK=>?_);go_simp;with_reducible refine (HPI.out A1 n1 c1 _ (HI8.out.below (Zr _ _).drew)).mono ?_
 rintro r w9 ⟨rfl,hb9⟩;have hb9':Below w8.heap.size w8 w9:=(Zr _ _).drew.trans hb9;go_simp;refine hK.out _ _ hb9' (fun _=>?_);clear hK K hb9;refine Zk 10 (fun K hK=>?_);go_simp;with_reducible refine (HPO.out A2 n2 c2 _ (HJ8.out.below hb9')).mono ?_
 rintro r wa ⟨rfl,hba⟩;have hba':Below w8.heap.size w8 wa:=Zb hb9' hba;go_simp;refine hK.out _ _ hba' (fun _=>?_);clear hK K hba hb9';refine Zk 11 (fun K hK=>?_);go_simp;with_reducible refine (HAT.out wa (Zb HB8.out hba')).mono ?_
 rintro r wb ⟨rfl,hbb⟩;have hbb':Below w8.heap.size w8 wb:=Zb hba' hbb;go_simp;refine hK.out _ _ hbb' (fun _=>?_);clear hK K hbb hba';refine tz 12 17 ?_;refine Zd ?_;have HBb:=Zh (Zb HB8.out hbb');have cvb:=Zc HBb.out (Zn _) HCV.out;clear hbb' HSX HAT HPI HPO;by_cases hvi:v=1152921504606846976;{have HBAD:=Zh (HBAD.out hvi);(have e1:(1152921504606846976:Int)≤v:=by omega);clear hvb hvi;(go_wp2_with fail);(with_reducible refine (Qcq _ _ _).mono ?_);rintro r wf ⟨vf,rfl,hcf,hbf⟩;obtain ⟨tf,xf,rfl⟩:=Qbd hcf;have HCF:=Zh hcf;clear hcf;(go_wp2_with fail);refine bodyPost_ret (v:=.tuple #[.slice none 0 0,.iface tf xf]) (by simp [results,results21,go_sem]) rfl ?_;exact ⟨.inl ⟨_,_,_,HBAD.out,rfl,HCF.out⟩,(Zb HBb.out hbf)⟩};have HLPv:=Zh (HLP.out hvi);have e1:¬(1152921504606846976:Int)≤v:=by omega
 clear hvb hvi HBAD;go_wp2_with fail
 with_reducible refine (HNO.out wb HBb.out).mono ?_
 rintro r wc ⟨E,G,ff,bf,dl,rfl,⟨_,_,eN,els,_⟩,hE,hW,hD,hG,hG2,hbc⟩;have HOP:=Zh (Qtp E hE j wc G _ 0 ff bf dl _ 0 0 J a b cc l v hW HJ.out (by rw [els];exact HLL.out) (by rw [eN];exact HLPv.out) hD (by omega) (by omega) (by omega) (by omega));have HEN:=Zh eN;have HG:=Zh hG;have HBc:=Zh (Zb HBb.out hbc);have HWB:=Zh (show w.heap.size≤wb.heap.size from HBb.out.size);clear eN els hE hW hD hG hG2 hbc HNO cvb;go_wp2_with fail
 with_reducible refine HOP.out.mono ?_
 rintro e wd ⟨A3,k3',c3,m3,L3,GX,n3,f3,bf3,dl3,hp3,rfl,hop,hk3,hm3,_,_,_,_,ha3,hr3,hn3,hc3,hc4⟩;rw [HEN.out] at hop;have HOPN:=Zh hop;have hL3:=hop.len;have hNL:=HNL.out;have HBd:=Zh (show Below w.heap.size w wd from HBc.out.trans (ha3.bel _ (fun b hb=>.inl (HG.out b (by have:=HWB.out;omega)))));have HR3:=Zh (hr3.le (Qau _ _));have HC3:=Zh hc3;have HC4:=Zh hc4;have HK3:=Zh (show k3'≤16384 by omega);clear hop hk3 hm3 ha3 hr3 hn3 hc3 hc4 hL3 hNL;go_wp2_with fail
 (refine Qac ?_;intro we hwe);have hbe:Below wd.heap.size wd we:=by rw [hwe];exact Qah
 have hS1:Blk we wd.heap.size 3 #[.int .i64 (a:Nat)]:=by rw [hwe];exact Qbi
 have hS2:Blk we (wd.heap.size+1) 61 #[.slice (some ⟨wd.heap.size,0,none⟩) 1 1,.slice A3 k3' c3]:=by rw [hwe];exact Qbi
 clear hwe;have hRa:RdI we (some ⟨wd.heap.size,0,none⟩) 1 (nis [a]):=Blk.rdI (t:=3) (l:=[(a:Int)]) hS1 rfl;have HCT:=Zh (Qqw _ _ 1 1 k3' c3 (wd.heap.size+1) 2 (nis [a]) (nis L3) we hS2 hRa (HR3.out.below hbe) (by omega) HC3.out (by omega) HC4.out (by omega) (by have:=HK3.out;omega));have HBe:=Zh (Zb HBd.out hbe);clear hbe hS1 hS2 hRa;with_reducible refine HCT.out.mono ?_
 rintro r wf ⟨A6,m6,c6,rfl,hm6,hr6,hc6,hc7,_,hbf⟩;rw [←Qfy] at hr6;have HR6:=Zh hr6;have HBf:=Zh (Zb HBe.out hbf);have HM6:=Zh (show m6≤1000000000∧m6≤c6∧c6≤9223372036854775807 from ⟨hm6,hc6,hc7⟩);clear hr6 hbf hm6 hc6 hc7;go_wp2_with fail
 refine bodyPost_ret (v:=.tuple #[.slice A6 m6 c6,.nilIface]) (by simp [results,results21,go_sem]) rfl ?_;exact ⟨.inr ⟨A6,m6,c6,L3,a,b,j,cc,l,v,HNS.out,rfl,rfl,by have:=HJ.out;omega,HLL.out,HLPv.out,rfl,HOPN.out,HR6.out,HM6.out⟩,HBf.out⟩
def Qbc:Qam:=⟨[(0,0,1),(1,0,0),(2,0,0),(3,0,0),(4,0,0),(5,0,2)],[(0,1,10),(1,2,10),(2,3,10),(3,4,10),(4,5,10)],[⟨1,1,[1]⟩,⟨0,1,[]⟩,⟨1,0,[]⟩]⟩
def Qdj:List (List Int):=[[0,0,1,1,2,2]]
theorem Qhr:Qap Qbc:=by
 refine ⟨by decide,by decide,by decide,?_,?_,?_,?_⟩;{intro t ht;simp only [Qbc,List.mem_cons,List.not_mem_nil,or_false] at ht;rcases ht with rfl|rfl|rfl <;> exact ⟨by decide,by decide,by decide,by decide,by decide,by decide⟩};{intro t ht;simp only [Qbc,List.mem_cons,List.not_mem_nil,or_false] at ht;rcases ht with rfl|rfl|rfl|rfl|rfl|rfl <;> exact ⟨by decide,by decide,by decide,by decide⟩};{intro t ht;simp only [Qbc,List.mem_cons,List.not_mem_nil,or_false] at ht;rcases ht with rfl|rfl|rfl|rfl|rfl <;> exact ⟨by decide,by decide,by decide,by decide,by decide⟩}
 · intro i v t hv ht;(have hi:i<6:=(Zs hv).1);rcases (by omega:i=0∨i=1∨i=2∨i=3∨i=4∨i=5) with rfl|rfl|rfl|rfl|rfl|rfl
   all_goals
    simp only [Qbc,Yn,List.getElem?_cons_succ,Option.some.injEq] at hv;subst hv
    revert ht
    simp only [Qbc,show (1:Int).toNat=1 from rfl,show (2:Int).toNat=2 from rfl,show (0:Int).toNat=0 from rfl,Yn,List.getElem?_cons_succ,Option.some.injEq]
    rintro rfl;exact ⟨by decide,by decide⟩
theorem Qhq:Qat Qbc.vs.length Qdj:=by refine ⟨by decide,by decide,?_,?_⟩;{intro l hl;(simp only [Qdj,List.mem_cons,List.not_mem_nil,or_false] at hl;subst hl;refine ⟨by decide,by decide,by decide,?_⟩;intro c hc;have hm:Qar [0,0,1,1,2,2]=3:=by decide);rw [hm] at hc;rcases (by omega:c=0∨c=1∨c=2) with rfl|rfl|rfl <;> decide};{intro i p l hp hl;(have hi:i+1<1:=(Zs hl).1);omega}
theorem ch_lt {a:Nat}{y:Tri} (h:Qbc.ar[a]?=some y):a≤4∧y=((a:Int),(a:Int)+1,10):=by
 match a,h with
 | 0,h=>cases h;exact ⟨by omega,rfl⟩
 | 1,h=>cases h;exact ⟨by omega,rfl⟩
 | 2,h=>cases h;exact ⟨by omega,rfl⟩
 | 3,h=>cases h;exact ⟨by omega,rfl⟩
 | 4,h=>cases h;exact ⟨by omega,rfl⟩
 | k+5,h=>simp [Qbc] at h
theorem ch_t (a:Nat)(h:a≤3):Qai Qbc a (a+1)=1:=by rcases (by omega:a=0∨a=1∨a=2∨a=3) with rfl|rfl|rfl|rfl <;> decide
theorem Qww {a b:Nat}(h:Qai Qbc a b≠1152921504606846976):a≤3∧b=a+1:=by obtain ⟨x,y,hx,hy,e⟩:=Qbm h;obtain ⟨h1,rfl⟩:=ch_lt hx;obtain ⟨h2,rfl⟩:=ch_lt hy;simp only at e;exact ⟨by omega,by omega⟩
theorem Qne {a b:Nat}{d:Int}:StW Qbc a b d↔a≤3∧b=a+1∧d=11:=by constructor;{rintro ⟨y,hy,h1,_,rfl⟩;obtain ⟨h3,rfl⟩:=Qww h1;obtain ⟨_,rfl⟩:=ch_lt hy;refine ⟨h3,rfl,?_⟩;rw [ch_t a h3];exact (by decide:(1:Int)+10=11)};{rintro ⟨h1,rfl,rfl⟩;refine ⟨((a:Int)+1,(a:Int)+1+1,10),?_,?_,(by decide:(10:Int)≠1152921504606846976),by rw [ch_t a h1];exact (by decide:(11:Int)=1+10)⟩;{rcases (by omega:a=0∨a=1∨a=2∨a=3) with rfl|rfl|rfl|rfl <;> rfl};{rw [ch_t a h1];decide}}
theorem ch_rch {s p:Nat}{c:Int} (h:Rch (StW Qbc) s p c):s≤p∧c=11*((p:Int)-s)∧(p=s∨p≤4):=by
 induction h with
 | start=>exact ⟨Zn _,by omega,.inl rfl⟩
 | step _ h2 ih =>obtain ⟨h3,rfl,rfl⟩:=Qne.1 h2;exact ⟨by omega,by omega,.inr (by omega)⟩
theorem ch_to (p:Nat)(h:p≤4):Rch (StW Qbc) 0 p (11*(p:Int)):=by
 induction p with
 | zero=>exact .start
 | succ p ih =>have:=(ih (by omega)).step (Qne.2 ⟨by omega,rfl,rfl⟩);rw [show 11*((p+1:Nat):Int)=11*(p:Int)+11 by omega];exact this
theorem ch_dist:Lst (Rch (StW Qbc) 0 4) 44:=.inl ⟨ch_to 4 (by omega),fun c hc=>by have:=ch_rch hc;omega⟩
theorem ch_gr:Qaf Qbc.ar [0,0,1,1,2,2]=[([],[1]),([1],[3]),([3],[])]:=by decide
theorem Qst:Qae Qbc.ar Qdj=[[([],[1]),([1],[3]),([3],[])]]:=by unfold Qae Qdj;rw [List.map_cons,ch_gr];rfl
theorem Qot:Qbw (Qae Qbc.ar Qdj)=1:=by rw [Qst];decide
theorem ch_ent:Qet Qbc (Qbv [0,0,1,1,2,2] 1) 1 3 12:=by
 have hst:∀ {a b d},StA Qbc (Qbv [0,0,1,1,2,2] 1) a b d→a=1∧b=2∧d=11:=fun {a b d} h=>by
  obtain ⟨h1,rfl,rfl⟩:=Qne.1 h.all;obtain ⟨y,hy,_,_,h3,h4,_⟩:=h;rcases (by omega:a=0∨a=1∨a=2∨a=3) with rfl|rfl|rfl|rfl
  {cases hy;exact absurd h3 (by decide)};{exact ⟨rfl,rfl,rfl⟩};{cases hy;exact absurd h4 (by decide)};{cases hy;exact absurd h3 (by decide)}
 have hr:∀ p c,Rch (StA Qbc (Qbv [0,0,1,1,2,2] 1)) 1 p c→p=1∧c=0∨p=2∧c=11:=by
  intro p c h
  induction h with
  | start=>exact .inl ⟨rfl,rfl⟩
  | step _ h2 ih =>obtain ⟨rfl,rfl,rfl⟩:=hst h2;(rcases ih with ⟨_,rfl⟩|⟨h,_⟩);{exact .inr ⟨rfl,by decide⟩};{exact absurd h (by decide)}
 refine .inl ⟨⟨2,11,1,?_,⟨by decide,by decide⟩,rfl⟩,fun v hv=>?_⟩;{exact Rch.start.step (show StA Qbc (Qbv [0,0,1,1,2,2] 1) 1 2 11 from ⟨(2,3,10),rfl,by decide,by decide,by decide,by decide,by decide⟩)};{obtain ⟨p,c,d,h1,⟨h2,rfl⟩,rfl⟩:=hv;(rcases hr p c h1 with ⟨rfl,rfl⟩|⟨rfl,rfl⟩);{exact absurd (by decide) h2};{rw [ch_t 2 (by omega)];decide}}
theorem Qss:Qct Qbc Qdj [12]:=by
 refine ⟨by rw [Qot];rfl,fun k v hk=>?_⟩
 match k,hk with
 | 0,hk =>cases hk;exact ⟨0,[0,0,1,1,2,2],1,([1],[3]),0,0,1,3,⟨rfl,by rw [ch_gr];rfl,rfl,rfl,by rw [Qst,ch_gr];decide⟩,ch_ent⟩
 | k+1,hk=>simp at hk
set_option maxHeartbeats 400000 in
theorem Qto (A:Option Addr)(n c:Nat)(l:List Int)(w:World)(h:RdI w A n l)(hn:n≤1000000)(hb:∀ x∈l,0≤x∧x≤1000000) :
 Calls prog 159 #[.slice A n c] w fun e w'=>e=.returned (.int .i64 (Qar l))∧w=w':=by
 have HR:=Zh h;have HL:=Zh h.1;have HB:=Zh hb;clear h hb;go_enter func159,ntmps159
 go_wp2_with fail
 go_loop [3,4] (fun m q=>∃ k:Nat,k≤n∧q=.int .i64 k∧m=.int .i64 (Qar (l.take k))) (fun _ q=>n-(intOf q).toNat)
 case atStart=>exact ⟨0,Nat.zero_le _,rfl,rfl⟩
 case round =>
  obtain ⟨k,hk,rfl,rfl⟩:=hrel;by_cases hlt:k<n
  {obtain ⟨b,o,x,rfl,hx,hc⟩:=HR.out.at_ hlt;(have hxb:=HB.out x (Zm hx);have HNX:=Zh (Qgw hx);have i1:0≤(k:Int):=by omega);(have i2:(k:Int)<n:=by omega);clear hx;generalize Qar (l.take k)=m at *;have HM:=Zh (show (if m<x+1 then x+1 else m)=max m (x+1) by split <;> omega);(go_wp2_with fail);(go_round);(case rel=>exact ⟨k+1,by omega,by go_num,by rw [HNX.out,←HM.out]⟩);case measure=>simp [intOf];omega};{(obtain rfl:n=k:=by omega);have HE:=Zh (show Qar (l.take n)=Qar l by rw [Ye (by rw [HL.out];exact Zn _)]);go_wp2;go_ret;exact ⟨Qcc HE.out,rfl⟩}
def Qgf (ls:List (List Int)) (i:Nat):Option (List Int):=if i=0 then none else ls[i-1]?
theorem Qsa (ls:List (List Int)):Qgf ls 0=none:=rfl
theorem Qhl (ls:List (List Int)) (j:Nat):Qgf ls (j+1)=ls[j]?:=rfl
theorem Qrr {n:Nat} {p:Option (List Int)} {l:List Int} (h:l.length≠n):Qfe n p l=1:=by unfold Qfe;rw [if_pos h]
theorem Qio {n:Nat} {p:Option (List Int)} {l:List Int} (h:l.length=n) (hn:¬(Qgg n l∧∀ q,p=some q→Qdr q l)):Qfe n p l=10:=by unfold Qfe;rw [if_neg (fun e=>e h),if_neg hn]
theorem Qmo {n:Nat} {p:Option (List Int)} {l:List Int} (h:Qgg n l) (hn:∀ q,p=some q→Qdr q l):Qfe n p l=0:=by unfold Qfe;rw [if_neg (fun e=>e h.len),if_pos ⟨h,hn⟩]
set_option maxHeartbeats 2000000 in
set_option maxRecDepth 20000 in
theorem Qlq (Q:Option Addr)(n L cq i:Nat) (ls:List (List Int)) (l:List Int) (w:World) (h:RdT w Q L ls) (hl:ls[i]?=some l) (hn:n≤4096) (hL:L≤1000000) (hprev:∀ j p,i=j+1→ls[j]?=some p→p.length=n) :
 Calls prog 135 #[.int .i64 n,.agg #[.slice Q L cq],.int .i64 ((i:Int)+1),.slice none 0 0] w fun e w'=>e=.returned (.int .i64 (Qfe n (Qgf ls i) l))∧Below w.heap.size w w':=by
 have hi:i<L:=by rw [←h.1];exact (Zs hl).1
 have HT:=Zh h;obtain ⟨b,o,A,m,c,l',rfl,hl',hc,hr,q1,q2⟩:=h.at_ hi;rw [hl] at hl';cases hl';have HR:=Zh hr;have HLEN:=Zh hr.1;have HLL:=Zh hl;have HPV:=Zh hprev;have hca:=fun ob=>Zc (show Below w.heap.size w (w.alloc ob) from Qah) (Zn _) hc
 have i1:0≤(i:Int):=by omega
 have i2:(i:Int)<L:=by omega
 have i5:(i:Int)+1-1=i:=by omega
 have hmk:=Qdg n (by omega);clear h hr hl hprev q1;by_cases hmn:m=n;rotate_left;{(have e1:((m:Int) != (n:Int))=true:=by simp;omega);(have e2:((m:Int) == (n:Int))=false:=by simp;omega);have HC:=Zh (Qrr (n:=n) (p:=Qgf ls i) (l:=l) (by rw [HLEN.out];exact hmn));(go_enter func135,ntmps135);(go_wp2_with fail);go_ret;exact ⟨Qcc HC.out.symm,Qah⟩};subst hmn;go_enter func135,ntmps135
 go_wp2_with fail
 (refine Qaj ?_;intro w1 hw1);have hb1:Below w.heap.size w w1:=by rw [hw1];exact Qah
 have hQ:Blk w1 w.heap.size 29 #[.slice (some ⟨b,o,none⟩) L cq]:=by rw [hw1];exact Qbi
 have HR1:=Zh (HR.out.below hb1);clear hw1 hca;go_loop [10] (fun q=>∃ k:Nat,k≤m∧q=.int .i64 k∧∀ j x,j<k→l[j]?=some x→0≤x∧x<m) (fun q=>m-(intOf q).toNat)
 case atStart=>exact ⟨0,Nat.zero_le _,rfl,fun _ _ h=>absurd h (Nat.not_lt_zero _)⟩
 case round =>
  obtain ⟨k,hk,rfl,hall⟩:=hrel;have HA:=Zh hall;clear hall;by_cases hlt:k<m
  · obtain ⟨b',o',x,rfl,hx,hcx⟩:=HR1.out.at_ hlt;(have j1:0≤(k:Int):=by omega);(have j2:(k:Int)<m:=by omega);have HX:=Zh hx;clear hx;by_cases hok:0≤x∧x<m
    · have g0:=hok.1;have g1:=hok.2;have HOK:=Zh hok;clear hok;(go_wp2_with fail);go_round
      case rel=>exact ⟨k+1,by omega,by go_num,fun j y hj hy=>by
       by_cases e:j=k
       · subst e
         rw [HX.out] at hy
         cases hy
         exact HOK.out
       · exact HA.out j y (by omega) hy⟩
      case measure=>simp [intOf];omega
    {have HC:=Zh (Qio (n:=m) (p:=Qgf ls i) (l:=l) HLEN.out (fun hh=>hok ⟨hh.1.lo x (Zm HX.out),hh.1.hi x (Zm HX.out)⟩));(by_cases hx0:x<0);{clear hok;(go_wp2_with fail);go_ret;exact ⟨Qcc HC.out.symm,hb1⟩};{(have hx1:¬x<m:=by omega);(have hx2:x ≥ m:=by omega);clear hok;(go_wp2_with fail);go_ret;exact ⟨Qcc HC.out.symm,hb1⟩}}
  · obtain rfl:m=k:=by omega
    have HN:=Zh (show ∀ x∈l,0≤x∧x<m from fun x hx=>by
     obtain ⟨j,hj⟩:=Yr hx;exact HA.out j x (by rw [←HLEN.out];exact (Zs hj).1) hj)
    clear HA;(go_wp2_with fail);(refine Qaj ?_;intro w2 hw2);(have hb2:Below w1.heap.size w1 w2:=by rw [hw2];exact Qah);(have hQ2:=hQ.below hb2 hQ.lt;have hB2:Blk w2 w1.heap.size 3 (Qcf (Qqk (l.take 0) m)):=by rw [hw2,List.take_zero,Qow];exact Blk.new _ _ _);have hbw2:=Zb hb1 hb2;have hz12:=hb1.size;clear hw2 hmk;(go_loopw [12] (fun q W=>Below w1.heap.size w1 W∧∃ k:Nat,k≤m∧q=.int .i64 k∧Blk W w1.heap.size 3 (Qcf (Qqk (l.take k) m))) (fun q _=>m-(intOf q).toNat));case atStart=>exact ⟨hb2,0,Nat.zero_le _,rfl,hB2⟩
    case round =>
     clear hb2 hB2 hQ2 hbw2;obtain ⟨hbl,k,hk,rfl,hB⟩:=hrel;(by_cases hlt2:k<m);{obtain ⟨b',o',x,rfl,hx,hcx⟩:=HR1.out.at_ hlt2;(have hxx:=HN.out x (Zm hx);obtain ⟨v,rfl⟩:∃ v:Nat,x=v:=⟨x.toNat,by omega⟩;have hv:v<m:=by omega);(have hcx2:=Zc hbl (Zn _) hcx;have c1:=hB.cellI (Qeu (l:=l.take k) hv);have c1f:=hB.frozen v;have d1:=Qwx l k (v:Int);have HBN:=Zh (hB.setI (Qov hx hv));have j1:0≤(k:Int):=by omega);(have j2:(k:Int)<m:=by omega);(have j3:0≤(v:Int):=by omega);(have j4:(v:Int)<m:=by omega);clear hx hcx hB hxx;generalize (l.take k).countP (fun x=>x == (v:Int))=p at *;have hbn:Below w1.heap.size w1 (wr.setCell ⟨w1.heap.size,v,none⟩ (.int .i64 ((p:Int)+1))):=hbl.setCell (Zn _) _;(go_wp2_with fail);go_roundw;(case rel=>exact ⟨hbn,k+1,by omega,by go_num,HBN.out⟩);case measure=>simp [intOf];omega}
     · (obtain rfl:m=k:=by omega);rw [Ye (by rw [HLEN.out];exact Zn _)] at hB;have m0:=Qce l;have m1:=Qcg (l:=l) (n:=(m:Int)) (fun x hx=>(HN.out x hx).2) (by omega);obtain ⟨w3,hw3⟩:=Zx wr;subst hw3;have hbw3:=Zb hb1 hbl;have HMO:=Zh (Qto A m c l w3 (HR.out.below hbw3) (by omega) (fun x hx=>by have:=HN.out x hx;omega));obtain ⟨M,hM⟩:∃ M:Nat,Qar l=M:=⟨(Qar l).toNat,by omega⟩;rw [hM] at HMO m0 m1;have HMM:=Zh hM;clear hM;(go_wp2_with fail);(go_loop [13] (fun q=>∃ k:Nat,k≤M∧q=.int .i64 k∧∀ c:Nat,c<k→(c:Int)∈l) (fun q=>M-(intOf q).toNat));case atStart=>exact ⟨0,Nat.zero_le _,rfl,fun _ h=>absurd h (Nat.not_lt_zero _)⟩
       case round =>
        obtain ⟨k,hk,rfl,hall⟩:=hrel;have HA:=Zh hall;clear hall;(go_wp2_with fail);(with_reducible refine HMO.out.mono ?_);rintro e w' ⟨rfl,rfl⟩;by_cases hlt3:k<M
        · (have hkm:k<m:=by omega);(have c1:=hB.cellI (Qeu (l:=l) hkm);have j1:0≤(k:Int):=by omega);(have j2:(k:Int)<m:=by omega);have HCT:=Zh (show 0<l.countP (fun x=>x == (k:Int))↔(k:Int)∈l from by rw [List.countP_pos_iff];simp);generalize l.countP (fun x=>x == (k:Int))=p at *;by_cases hp:p=0
          · subst hp
            have HC:=Zh (Qio (n:=m) (p:=Qgf ls i) (l:=l) HLEN.out (fun hh=>by
             have:=HCT.out.2 (hh.1.all k (by rw [HMM.out];omega));omega))
            (go_wp2_with fail);go_ret;exact ⟨Qcc HC.out.symm,hbw3⟩
          · (have e1:((p:Int) == 0)=false:=by simp;exact hp);have HP:=Zh (HCT.out.1 (by omega));clear hp;(go_wp2_with fail);go_round
            case rel=>exact ⟨k+1,by omega,by go_num,fun c hc=>by
             by_cases e:c=k
             · subst e;exact HP.out
             · exact HA.out c (by omega)⟩
            case measure=>simp [intOf];omega
        · (obtain rfl:M=k:=by omega);have HLV:=Zh (show Qgg m l from ⟨HLEN.out,fun x hx=>(HN.out x hx).1,fun x hx=>(HN.out x hx).2,fun c hc=>HA.out c (by rw [HMM.out] at hc;omega)⟩);have hQ3:=hQ.below hbl hQ.lt;clear HA HN hB;have q0:=hQ3.cell 0;simp only [Yo,Yn] at q0;have HRw:=Zh (HR.out.below hbw3);by_cases hi0:i=0;{have HC:=Zh (Qmo (n:=m) (p:=Qgf ls i) HLV.out (fun q hq=>by rw [hi0,Qsa] at hq;cases hq));(have e1:¬((i:Int)+1 > 1):=by omega);(have e2:¬(0<i):=by omega);(have e3:¬((i:Int) > 0):=by omega);clear hi0;have hb99:Below w3.heap.size w3 w3:=Zr _ _;(by_cases hm0:0<m);{(skip);exact Kcg};{(skip);exact Kcg}}
          · obtain ⟨j,rfl⟩:∃ j,i=j+1:=⟨i-1,by omega⟩;obtain ⟨bp,op,A',m',c',p,e,hp,hcp,hrp,q1',q2'⟩:=HT.out.at_ (show j<L by omega);cases e;(obtain rfl:m=m':=by rw [←hrp.1];exact (HPV.out j p rfl hp).symm);(have HPP:=Zh hp;have HRp:=Zh (hrp.below hbw3);have HCP:=Zh (Zc hbw3 (Zn _) hcp);have i3:((j:Int)+1+1)-2=(j:Int):=by omega);(have i4:0≤(j:Int):=by omega);(have i6:(j:Int)<L:=by omega);(have i7:(j:Int)+1+1 > 1:=by omega);have HLp:=Zh hrp.1;clear hrp hp hcp q1' hi0;(go_wp2_with fail);(go_loopw [14] (fun q W=>Below w3.heap.size w3 W∧∃ k:Nat,k≤m∧q=.int .i64 k∧∀ (a v:Nat) (x y u z:Int),a<k→p[a]?=some x→p[v]?=some y→l[a]?=some u→l[v]?=some z→x≤y→u≤z) (fun q _=>m-(intOf q).toNat));case atStart=>exact ⟨Zr _ _,0,Nat.zero_le _,rfl,fun _ _ _ _ _ _ h=>absurd h (Nat.not_lt_zero _)⟩
            case round =>
             obtain ⟨hbr,k,hk,rfl,hall⟩:=hrel;have HA:=Zh hall;clear hall;by_cases hlt4:k<m
             · obtain ⟨pb,po,x,rfl,hx,hcx⟩:=HRp.out.at_ hlt4;(obtain ⟨lb,lo,u,rfl,hu,hcu⟩:=HRw.out.at_ hlt4;have k1:0≤(k:Int):=by omega);(have k2:(k:Int)<m:=by omega);have HX:=Zh hx;have HU:=Zh hu;clear hx hu;obtain ⟨wo,hwo⟩:=Zx wr;subst hwo;(go_wp2_with fail);(go_loopw [15] (fun q W=>Below w3.heap.size w3 W∧∃ v:Nat,v≤m∧q=.int .i64 v∧∀ (v':Nat) (y z:Int),v'<v→p[v']?=some y→l[v']?=some z→x≤y→u≤z) (fun q _=>m-(intOf q).toNat));case atStart=>exact ⟨hbr,0,Nat.zero_le _,rfl,fun _ _ _ h=>absurd h (Nat.not_lt_zero _)⟩
               case round =>
                clear hbr;obtain ⟨hbr,v,hv,rfl,hall⟩:=hrel;have HV:=Zh hall;clear hall;by_cases hlt5:v<m
                · obtain ⟨pb',po',y,e,hy,hcy⟩:=HRp.out.at_ hlt5;cases e;obtain ⟨lb',lo',z,e,hz,hcz⟩:=HRw.out.at_ hlt5;cases e;(have HY:=Zh hy;have HZ:=Zh hz;have q0':=Zc hbr (Zn _) q0;have hcp':=Zc hbr (Zn _) HCP.out;have hcx':=Zc hbr (Zn _) hcx;have hcu':=Zc hbr (Zn _) hcu;have hcy':=Zc hbr (Zn _) hcy;have hcz':=Zc hbr (Zn _) hcz;have k3:0≤(v:Int):=by omega);(have k4:(v:Int)<m:=by omega);clear hy hz hcy hcz;by_cases hxy:x≤y
                  · by_cases huz:u > z
                    · have HC:=Zh (Qio (n:=m) (p:=Qgf ls (j+1)) (l:=l) HLEN.out (fun hh=>by
                       have:=hh.2 p (by rw [Qhl];exact HPP.out) k v x y u z HX.out HY.out HU.out HZ.out hxy;omega))
                      (have e1:decide (x≤y)=true:=by simpa using hxy);(go_wp2_with fail);(go_quiet (fail));(go_wp2_with fail);go_ret;exact ⟨Qcc HC.out.symm,Zb hbw3 (Qay hbr _)⟩
                    · (have e1:decide (x≤y)=true:=by simpa using hxy);have HO:=Zh huz;(go_wp2_with fail);(go_quiet (fail));(go_wp2_with fail);go_roundw
                      case rel=>exact ⟨Qay hbr _,v+1,by omega,by go_num,fun v' y' z' hv' h1 h2 h3=>by
                       by_cases e:v'=v
                       · subst e
                         rw [HZ.out] at h2
                         cases h2
                         have:=HO.out;omega
                       · exact HV.out v' y' z' (by omega) h1 h2 h3⟩
                      case measure=>simp [intOf];omega
                  · (have e1:decide (x≤y)=false:=by simpa using hxy);have HO:=Zh hxy;(go_wp2_with fail);(go_quiet (fail));(go_wp2_with fail);go_roundw
                    case rel=>exact ⟨Qay hbr _,v+1,by omega,by go_num,fun v' y' z' hv' h1 h2 h3=>by
                     by_cases e:v'=v
                     · subst e
                       rw [HY.out] at h1
                       cases h1
                       have:=HO.out;omega
                     · exact HV.out v' y' z' (by omega) h1 h2 h3⟩
                    case measure=>simp [intOf];omega
                · (obtain rfl:m=v:=by omega);(go_wp2_with fail);go_roundw
                  case rel=>exact ⟨hbr,k+1,by omega,by go_num,fun a v x' y u' z ha h1 h2 h3 h4 h5=>by
                   by_cases e:a=k
                   · subst e
                     rw [HX.out] at h1;rw [HU.out] at h3
                     cases h1
                     cases h3
                     exact HV.out v y z (by rw [←HLp.out];exact (Zs h2).1) h2 h4 h5
                   · exact HA.out a v x' y u' z (by omega) h1 h2 h3 h4 h5⟩
                  case measure=>simp [intOf];omega
             · obtain rfl:m=k:=by omega
               have HC:=Zh (Qmo (n:=m) (p:=Qgf ls (j+1)) HLV.out (fun q hq=>by
                rw [Qhl,HPP.out] at hq
                cases hq
                intro a v x y u z h1 h2 h3 h4 h5;exact HA.out a v x y u z (by rw [←HLp.out];exact (Zs h1).1) h1 h2 h3 h4 h5))
               clear HA;(go_wp2_with fail);have hb99:=hbr;exact Kbb
set_option maxHeartbeats 1000000 in
theorem Qsc (Q:Option Addr)(L cq i:Nat) (ls:List (List Int)) (l:List Int) (w:World) (h:RdT w Q L ls) (hl:ls[i]?=some l) (hL:L≤1000000) (hb:∀ x∈l,0≤x∧x≤1000000) (hn:l.length≤1000000) :
 Calls prog 111 #[.agg #[.slice Q L cq],.int .i64 ((i:Int)+1)] w fun e w'=>e=.returned (.int .i64 (Qar l))∧Below w.heap.size w w':=by
 have hiL:i<L:=by rw [←h.1];exact (Zs hl).1
 obtain ⟨qb,qo,A1,n1,c1,l1,rfl,hl1,k0,k1,k2,k3⟩:=h.at_ hiL;rw [hl] at hl1;cases hl1;have hn1:n1≤1000000:=by rw [←k1.1];exact hn
 have HMO:=Zh (fun V (hV:Below w.heap.size w V)=>Qto A1 n1 c1 l V (k1.below hV) hn1 hb);have HK0:=Zh (show ∀ V,Below w.heap.size w V→V.cell? ⟨qb,qo+i,none⟩=some (.slice A1 n1 c1) from fun V hV=>Zc hV (Zn _) k0);have i4:(i:Int)+1-1=i:=by omega
 have i2:(i:Int)<L:=by omega
 have i3:0≤(i:Int):=by omega
 have wl:IntKind.i64.wrap (i:Int)=(i:Int):=IntWalk.i64_in _ (by omega);clear h hl hb hn k0 k1 k2 k3;go_enter func111,ntmps111
 go_wp2_with fail
 (refine Qac ?_;intro w1 hw1);have hb1:Below w.heap.size w w1:=by rw [hw1];exact Qah
 have hX1:Blk w1 w.heap.size 29 #[.slice (some ⟨qb,qo,none⟩) L cq]:=by rw [hw1];exact Blk.new _ _ _
 clear hw1;with_reducible refine (Qfo _ L cq i w1 hiL).mono ?_
 rintro r w2 ⟨rfl,hb2⟩;have hX2:=hX1.below hb2 hX1.lt;have hb2':=Zb hb1 hb2;have x0:w2.cell? ⟨w.heap.size,0,none⟩=some (.slice (some ⟨qb,qo,none⟩) L cq):=Zq hX2;have x2:=HK0.out w2 hb2';clear hb1 hb2 hX1 hX2;go_wp2_with fail
 with_reducible refine (HMO.out w2 hb2').mono ?_
 rintro r w3 ⟨rfl,rfl⟩;go_wp2_with fail
 go_ret;exact ⟨rfl,hb2'⟩
theorem Qxp:(Tryz.prog.info? 73).map (fun i=>(i.zero,i.size,i.bytes))=some (some (.agg #[.slice none 0 0,.slice none 0 0]),2,48):=by kernel_rfl
theorem Quy:(Tryz.prog.info? 128).map (fun i=>(i.zero,i.size,i.bytes))=some (some (.slice none 0 0),1,24):=by kernel_rfl
theorem Qoa (k:Nat)(hk:k≤1000000)(W:World):(Instr.makeSlice 128 (.int .i64 (k:Int)) (.int .i64 (k:Int))).run prog W=.ok (.slice (some ⟨W.heap.size,0,none⟩) k k) (W.alloc (.cells (Qbs (.slice none 0 0) (k*2)) 73)):=by obtain ⟨i,hi,hz,hs,hbb⟩:=info_parts Qxp;have hb':(i.bytes:Int)*(k:Int)≤281474976710656:=by{rw [hbb];omega};have hr:=run_make (P:=prog) W 128 73 i _ underlying128 hi hz .i64 .i64 k k (by omega) (by omega) hb' (by omega);simp only [Yl] at hr;rw [hs,show (Value.agg #[.slice none 0 0,.slice none 0 0]).cells=#[.slice none 0 0,.slice none 0 0] from rfl,Qxz] at hr;exact hr
def GtL (W:World)(B:Nat)(A:Option Addr)(i c:Nat)(xs:List Value)(ar:List Tri) (ls:List (List Int)):Prop :=
 Own W B 128 1 A i c xs∧∀ (j:Nat) (l:List Int),j<i→ls[j]?=some l→∃ (A2:Option Addr) (c2:Nat),xs[j]?=some (.slice A2 (Qar l).toNat c2)∧RdC (msk W (fun b=>B≤b∧b<W.heap.size∧Qab A≠some b)) A2 (Qar l).toNat (Qaf ar l)∧(Qar l).toNat≤c2∧c2≤9223372036854775807
section
variable {W W':World} {B i c:Nat} {A:Option Addr} {xs:List Value} {ar:List Tri} {ls:List (List Int)}
theorem GtL.nil (W:World)(B:Nat)(ar:List Tri) (ls:List (List Int)):GtL W B none 0 0 [] ar ls:=⟨Own.nil _ _ _ _,fun _ _ h=>absurd h (Nat.not_lt_zero _)⟩
theorem GtL.below (h:GtL W B A i c xs ar ls)(hb:Below W.heap.size W W'):GtL W' B A i c xs ar ls :=
 ⟨h.1.below hb,fun j l hj hl=>by
  obtain ⟨A2,c2,h1,h2,h3⟩:=h.2 j l hj hl;exact ⟨A2,c2,h1,h2.le (Le.trans (Qaz.msk (Qaz.below hb)) (Qbe (fun b hb'=>⟨hb'.1,Yu hb'.2.1 hb.size,hb'.2.2⟩))),h3⟩⟩
theorem GtL.push {l:List Int}{R:Option Addr}{c' cr:Nat}{A':Option Addr}(h:GtL W B A i c xs ar ls) (hl:ls[i]?=some l)
 (hr:RdC (msk W (fun b=>B≤b∧b<W.heap.size∧Qab A≠some b)) R (Qar l).toNat (Qaf ar l)) (h1:(Qar l).toNat≤cr) (h2:cr≤9223372036854775807)
 (ho:Own W' B 128 1 A' (i+1) c' (xs ++[.slice R (Qar l).toNat cr])) (hg:W.grownBy W' (Qab A)) (hat:Qab A'=Qab A∨Qab A'=some W.heap.size):GtL W' B A' (i+1) c' (xs ++[.slice R (Qar l).toNat cr]) ar ls:=by
 have hxl:xs.length=i:=by rw [h.1.1,Nat.mul_one]
 have hle:Le (msk W (fun b=>B≤b∧b<W.heap.size∧Qab A≠some b)) (msk W' (fun b=>B≤b∧b<W'.heap.size∧Qab A'≠some b)) :=
  Le.trans (Qaz.msk (Qaz.grown hg (fun b hb=>hb.2.2))) (Qbe (fun b hb=>⟨hb.1,Yu hb.2.1 hg.size,fun e=>by
   rcases hat with e2|e2
   · exact hb.2.2 (e2▸e)
   · rw [e2] at e
     have:=Yv e;omega⟩))
 refine ⟨ho,fun j l' hj hl'=>?_⟩;by_cases e:j=i;{subst e;rw [hl] at hl';cases hl';exact ⟨R,cr,by rw [←hxl,Yb (Zn _),Yy];rfl,hr.le hle,h1,h2⟩};{obtain ⟨A2,c2,k1,k2,k3⟩:=h.2 j l' (by omega) hl';exact ⟨A2,c2,by rw [Yc (by omega)];exact k1,k2.le hle,k3⟩}
theorem GtL.rdG {G:Nat→Prop}(h:GtL W B A i c xs ar ls)(hl:ls.length=i)(hG:∀ b,B≤b→b<W.heap.size→G b):RdG (msk W G) A i (Qae ar ls):=by
 refine ⟨by simp [Qae,hl],fun j row hr=>?_⟩;unfold Qae at hr;rw [Yt] at hr
 cases e:ls[j]? with
 | none=>rw [e] at hr;cases hr
 | some l =>rw [e] at hr;cases hr;obtain ⟨A2,c2,k1,k2,k3⟩:=h.2 j l (by rw [←hl];exact (Zs e).1) e;obtain ⟨b,o,e2,k4⟩:=h.1.rds.2 _ _ k1;have hb:=h.1.lt b (by rw [e2];rfl);exact ⟨b,o,A2,_,c2,e2,Qbb.2 ⟨hG b hb.1 hb.2,k4⟩,k2.le (Qbe (fun b hb=>hG b hb.1 hb.2.1)),k3⟩
end
set_option maxHeartbeats 4000000 in
set_option maxRecDepth 20000 in
theorem Qsd (A B C Q:Option Addr)(n m k c d e L cq:Nat)(N:Qam) (ls:List (List Int)) (w:World) (h:Qbz w A B C n m k N) (hok:Qap N) (hq:RdT w Q L ls) (hP:Qat N.vs.length ls) :
 Calls prog 55 #[.agg #[.slice A n c,.slice B m d,.slice C k e],.agg #[.slice Q L cq]] w fun r w'=>∃ A' c',r=.returned (.slice A' L c')∧RdG (msk w' (fun b=>w.heap.size≤b∧b<w'.heap.size)) A' L (Qae N.ar ls)∧Below w.heap.size w w':=by
 have HH:=Zh h;have HT:=Zh hq;have HP:=Zh hP;have HOK:=Zh hok;have HVN:=Zh h.1.1;have hn4:n≤4096:=by rw [←h.1.1];exact hok.lv
 have hm:N.ar.length≤16384:=hok.la;have HMM:=Zh hm;have HLM:=Zh h.2.1.1;have l6:L≤6:=by rw [←hq.1];exact hP.l6
 clear h hok hq hP hm;go_enter func55,ntmps55
 go_wp2_with fail
 (refine Qaj ?_;intro w1 hw1);have hb1:Below w.heap.size w w1:=by rw [hw1];exact Qah
 have hX:Blk w1 w.heap.size 26 #[.slice A n c,.slice B m d,.slice C k e]:=by{rw [hw1];refine Blk.alloc ?_ _;exact Blk.new _ _ _};have hY:Blk w1 (w.heap.size+1) 29 #[.slice Q L cq]:=by{rw [hw1];refine Blk.new' _ _ _ ?_;simp};clear hw1;go_loopw [5,6] (fun z q W=>∃ (i:Nat) (A':Option Addr) (c':Nat) (xs:List Value),i≤L∧q=.int .i64 ((i:Int)+1)∧z=.slice A' i c'∧GtL W w1.heap.size A' i c' xs N.ar ls∧Below w1.heap.size w1 W) (fun _ q _=>L+1-(intOf q).toNat)
 case atStart=>exact ⟨0,none,0,[],Nat.zero_le _,rfl,rfl,GtL.nil _ _ _ _,Zr _ _⟩
 case round =>
  obtain ⟨i,A',c',xs,hi,rfl,rfl,hGt,hbl⟩:=hrel;have HGT:=Zh hGt;have hbw:=Zb hb1 hbl;have hXr:=hX.below hbl hX.lt;have hYr:=hY.below hbl hY.lt;have x0:wr.cell? ⟨w.heap.size,0,none⟩=some (.slice A n c):=Zq hXr;have x1:wr.cell? ⟨w.heap.size,1,none⟩=some (.slice B m d):=Zq hXr;have x2:wr.cell? ⟨w.heap.size,2,none⟩=some (.slice C k e):=Zq hXr;have y0:wr.cell? ⟨w.heap.size+1,0,none⟩=some (.slice Q L cq):=Zq hYr;have yl:=hYr.lt;clear hGt;by_cases hlt:i<L
  rotate_left;{(obtain rfl:i=L:=by omega);(have i1:¬((i:Int)+1≤i):=by omega);(go_wp2_with fail);go_ret;exact ⟨A',⟨c',rfl⟩,HGT.out.rdG HT.out.1 (fun b h1 h2=>⟨by have:=hb1.size;omega,h2⟩),hbw⟩};obtain ⟨qb,qo,LA,ln,lc,l,rfl,hl,hc,hr,q1,q2⟩:=HT.out.at_ hlt;have hlo:=HP.out.lvl l (Zm hl);obtain rfl:n=ln:=by rw [←hr.1,hlo.len];exact HVN.out.symm
  have hM0:=Qce l;have hM1:=Qcg (l:=l) (n:=(n:Int)) (fun x hx=>by have:=hlo.hi x hx;have:=HVN.out;omega) (by omega);obtain ⟨M,hM⟩:∃ M:Nat,Qar l=M:=⟨(Qar l).toNat,by omega⟩;have HCN:=Zh (show ∀ V,Below w.heap.size w V→Calls prog 111 #[.agg #[.slice (some ⟨qb,qo,none⟩) L cq],.int .i64 ((i:Int)+1)] V fun e w'=>e=.returned (.int .i64 M)∧Below V.heap.size V w' from fun V hV=>hM▸Qsc _ L cq i ls l V (HT.out.below hV) hl (by omega) (fun x hx=>⟨hlo.lo x hx,by have:=hlo.hi x hx;have:=HVN.out;omega⟩) (by have:=hlo.len;have:=HVN.out;omega));have HCR:=Zh (fun V (hV:Below w.heap.size w V)=>Qhn A B C (some ⟨qb,qo,none⟩) n m k c d e L cq i N ls l V (HH.out.below hV) HOK.out (HT.out.below hV) hl hlo.len (by omega));have HLO:=Zh hlo;have HLL:=Zh hl;have HR:=Zh hr;have HC:=Zh hc;have HMM2:=Zh hM;rw [hM] at hM0 hM1;have hM3:M≤1000000:=by omega
  have hmkc:=Qoa M hM3;have i1:(i:Int)+1≤L:=by omega
  clear hr hlo hl hc q1 q2 hM;go_wp2_with fail
  with_reducible refine (HCN.out wr hbw).mono ?_
  rintro r w2' ⟨rfl,hb2⟩;obtain ⟨w2,hw2⟩:=Zx w2';subst hw2;have hbr2:=hb2;have hbl2:=Zb hbl hb2;have hbw2:=Zb hbw hb2;have HGT2:=Zh (HGT.out.below hb2);have hX2:=hXr.below hb2 hXr.lt;have hY2:=hYr.below hb2 hYr.lt;clear x0 x1 x2 y0 yl hb2 hXr hYr hbl hbw HGT;have x0:w2.cell? ⟨w.heap.size,0,none⟩=some (.slice A n c):=Zq hX2;have x1:w2.cell? ⟨w.heap.size,1,none⟩=some (.slice B m d):=Zq hX2;have x2:w2.cell? ⟨w.heap.size,2,none⟩=some (.slice C k e):=Zq hX2;have y0:w2.cell? ⟨w.heap.size+1,0,none⟩=some (.slice (some ⟨qb,qo,none⟩) L cq):=Zq hY2;have yl:=hY2.lt;have hz12:=hbl2.size;have hXl:=hX2.lt;have x0b:=fun o=>Zc (show Below w2.heap.size w2 (w2.alloc o) from Qah) (Zn _) x0
  have x1b:=fun o=>Zc (show Below w2.heap.size w2 (w2.alloc o) from Qah) (Zn _) x1
  have x2b:=fun o=>Zc (show Below w2.heap.size w2 (w2.alloc o) from Qah) (Zn _) x2
  have y0b:=fun o=>Zc (show Below w2.heap.size w2 (w2.alloc o) from Qah) (Zn _) y0
  go_wp2_with fail
  (refine Qac ?_;intro w5 hw5);have hb45:Below w2.heap.size w2 w5:=by rw [hw5];exact Qah
  have hC5:Blk w5 w2.heap.size 73 (Qbs (.slice none 0 0) (M*2)):=by rw [hw5];exact Blk.new _ _ _
  clear hw5 x0 x1 x2 y0 x0b x1b x2b y0b hmkc;have hbw5:=Zb hbw2 hb45;have hz45:w2.heap.size+1≤w5.heap.size:=by have:=hC5.lt;omega
  with_reducible refine (HCR.out w5 hbw5).mono ?_
  rintro r w6 ⟨AX,KX,cX,rfl,hX6,hXlo,hb6⟩;have HXlo:=Zh hXlo;clear hXlo;have hKX:KX=(Qas N.ar l).length:=hX6.1.symm;subst hKX;have hb26:=Zb hb45 hb6;have hbw6:=Zb hbw5 hb6;have hI6:IkG 73 w6 w6.heap.size w2.heap.size (M*2) (Qdy (toC N.ar l) (frC N.ar l) ((Qas N.ar l).take 0) M):=by{rw [List.take_zero,Qpf];exact IkG.start (by have:=hb6.size;omega) (hC5.below hb6 hC5.lt)}
  have HXL:=Zh (show ∀ x∈Qas N.ar l,∃ (a:Nat) (y:Tri),x=(a:Int)∧N.ar[a]?=some y from fun x hx=>by
   obtain ⟨a,y,e1,e2,_⟩:=Qtn.1 hx;exact ⟨a,y,e1,e2⟩)
  have hXm:(Qas N.ar l).length≤16384:=Yx (Qfv _ _) HMM.out;have hz56:=hb6.size;have HX6:=Zh hX6;clear hC5 hb45 hb6 hbw5;generalize hKK:(Qas N.ar l).length=K at *;have HKK:=Zh hKK;clear hKK;go_wp2_with fail
  go_loopw [9] (fun q W=>w6.heap.size≤W.heap.size∧Below w2.heap.size w2 W∧∃ j:Nat,j≤K∧q=.int .i64 j∧RdI W AX K (Qas N.ar l)∧IkG 73 W w6.heap.size w2.heap.size (M*2) (Qdy (toC N.ar l) (frC N.ar l) ((Qas N.ar l).take j) M)) (fun q _=>K-(intOf q).toNat)
  case atStart=>exact ⟨Zn _,hb26,0,Nat.zero_le _,rfl,hX6,hI6⟩
  case round =>
   clear hb26 hX6 hI6;obtain ⟨hsz6,hbl2w,j,hj,rfl,hXj,hI⟩:=hrel;(by_cases hlt2:j<K);rotate_left
   · (obtain rfl:K=j:=by omega);rw [Ye (by rw [HKK.out];exact Zn _)] at hI;have HG9:=Zh (HGT2.out.below hbl2w)
     have HRC:=Zh (show RdC (msk wr (fun b=>w1.heap.size≤b∧b<wr.heap.size∧Qab A'≠some b)) (some ⟨w2.heap.size,0,none⟩) (Qar l).toNat (Qaf N.ar l) from by
      have hI':IkG 73 wr w6.heap.size w2.heap.size ((Qar l).toNat*2) (Qdy (toC N.ar l) (frC N.ar l) (Qas N.ar l) (Qar l).toNat):=by
       rw [HMM2.out,Yl];exact hI
      exact hI'.rdCM ⟨by omega,hI.lt,fun e=>by have:=(HGT2.out.1.lt _ e).2;omega⟩ (fun b h1 h2=>⟨by omega,h2,fun e=>by have:=(HGT2.out.1.lt _ e).2;omega⟩))
     have HMN:=Zh (show (Qar l).toNat=M by rw [HMM2.out];simp);(obtain ⟨W2,hW2⟩:=Zx (wr.alloc (.cells #[.slice (some ⟨w2.heap.size,0,none⟩) M M] 128));have hbW:Below wr.heap.size wr W2:=by rw [hW2];exact Qah);(have HG10:=Zh (HG9.out.below hbW);have hown:=HG10.out.1;have hrd:Rds W2 1 (some ⟨wr.heap.size,0,none⟩) 1 [.slice (some ⟨w2.heap.size,0,none⟩) M M]:=by rw [hW2];exact (Blk.new wr 128 #[.slice (some ⟨w2.heap.size,0,none⟩) M M]).rds rfl);(have hsz:w1.heap.size≤W2.heap.size:=by have:=hbW.size;have:=hbl2w.size;omega);(have hbw9:=Zb (Zb hbl2 hbl2w) hbW;have HW2:=Zh hW2;have j2:¬((K:Int)<K):=by omega);clear hW2 hI hXj;(go_wp2_with (at_builtin;rw [←HW2.out];with_reducible refine Qal rfl (.tmp 97) (.tmp 99) 54 rfl 128 _ 1 24 Quy underlying54 rfl (by omega) rfl rfl hown hrd (Qch _ _ _) (by omega) (by omega) hsz ?_));intro A3 c3 w8 ho8 hg8 hat8;have HB8:=Zh (Zo hbw9 hg8 hown hsz);have HG11:=Zh (show GtL w8 w1.heap.size A3 (i+1) c3 (xs ++[.slice (some ⟨w2.heap.size,0,none⟩) (Qar l).toNat M]) N.ar ls from HG10.out.push HLL.out (HRC.out.le (Le.trans (Qaz.msk (Qaz.below hbW)) (Qbe (fun b hb'=>⟨hb'.1,Yu hb'.2.1 hbW.size,hb'.2.2⟩)))) (by rw [HMN.out];exact Zn _) (by omega) (by rw [HMN.out];exact ho8) hg8 hat8);clear hown hrd hsz hbw9 ho8 hg8 hat8 hbW;(go_wp2_with fail);go_roundw;(case rel=>exact ⟨i+1,A3,c3,_,by omega,by go_num,rfl,HG11.out,HB8.out⟩);case measure=>simp [intOf];omega
   obtain ⟨xb,xo,x,rfl,hx,hc6⟩:=HX6.out.at_ hlt2;obtain ⟨a,⟨u,v,z⟩,rfl,hay⟩:=HXL.out x (Zm hx);have hxb6:=Qak hc6;simp only at hxb6;have hu0:=HOK.out.arcs _ (Zm hay);have f0:=hu0.f0;have f1:=hu0.f1;have g0:=hu0.g0;have g1:=hu0.g1;simp only at f0 f1 g0 g1;rw [HVN.out] at f1 g1;obtain ⟨u,rfl⟩:∃ u':Nat,u=u':=⟨u.toNat,by omega⟩;obtain ⟨v,rfl⟩:∃ v':Nat,v=v':=⟨v.toNat,by omega⟩;obtain ⟨p,hp1,hp2,hp3⟩:=Qcm HLO.out (v:=v) (by rw [HVN.out];omega);obtain ⟨q,hq1,hq2,hq3⟩:=Qcm HLO.out (v:=u) (by rw [HVN.out];omega);rw [HMM2.out,Yl] at hp2 hq2;have hbww:=Zb hbw2 hbl2w;obtain ⟨rb,ro,_,rfl,e1,cp⟩:=(HR.out.below hbww).at_ (i:=v) (by omega);rw [hp3] at e1;cases e1;obtain ⟨rb',ro',_,e2,e1,cq'⟩:=(HR.out.below hbww).at_ (i:=u) (by omega);rw [hq3] at e1;cases e1;cases e2;(have hrow:=Zc hbww (Zn _) HC.out;obtain ⟨ab,ao,rfl,y1,y2,y3⟩:=(HH.out.below hbww).2.1.2 a _ hay;simp only at y1 y2 y3;have hXr:=hX2.below hbl2w hX2.lt;have hYr:=hY2.below hbl2w hY2.lt;have ham:a<m:=by rw [←HLM.out];exact (Zs hay).1);obtain ⟨_,_,_,eX,hx',hcx⟩:=hXj.at_ hlt2;cases eX;rw [hx] at hx';cases hx'
   have HNX:=Zh (show Qdy (toC N.ar l) (frC N.ar l) ((Qas N.ar l).take (j+1)) M=((Qdy (toC N.ar l) (frC N.ar l) ((Qas N.ar l).take j) M).set (p*2) (((Qas N.ar l).take j).filter (fun a=>toC N.ar l a == (p:Int)) ++[(a:Int)])).set (q*2+1) (((Qas N.ar l).take j).filter (fun a=>frC N.ar l a == (q:Int)) ++[(a:Int)]) by
    rw [Qmg ((Qof hay).trans hp1) ((Qnj hay).trans hq1) hp2 hq2,Yf (Zs hx).1,(Zs hx).2])
   (have HP1:=Zh (Qjl (t:=toC N.ar l) (f:=frC N.ar l) (X:=(Qas N.ar l).take j) hp2);have HQ1:=Zh (Qhv (t:=toC N.ar l) (f:=frC N.ar l) (X:=(Qas N.ar l).take j) hq2);have hfl1:(((Qas N.ar l).take j).filter (fun a=>toC N.ar l a == (p:Int))).length≤j:=Yx (List.length_filter_le _ _) (List.length_take_le _ _);have hfl2:(((Qas N.ar l).take j).filter (fun a=>frC N.ar l a == (q:Int))).length≤j:=Yx (List.length_filter_le _ _) (List.length_take_le _ _);have k1:0≤(j:Int):=by omega);(have k2:(j:Int)<K:=by omega);(have k3:0≤(v:Int):=by omega);(have k4:(v:Int)<n:=by omega);(have k5:0≤(u:Int):=by omega);(have k6:(u:Int)<n:=by omega);(have k7:0≤(p:Int):=by omega);(have k8:(p:Int)<M:=by omega);(have k9:0≤(q:Int):=by omega);(have k10:(q:Int)<M:=by omega);(have k11:0≤(a:Int):=by omega);(have k12:(a:Int)<m:=by omega);(have k13:0≤(i:Int):=by omega);(have k14:(i:Int)<L:=by omega);(have k15:(i:Int)+1-1=i:=by omega);have wl:IntKind.i64.wrap (i:Int)=(i:Int):=IntWalk.i64_in _ (by omega)
   have HSX:=Zh (show ∀ V,Below wr.heap.size wr V→V.cell? ⟨w.heap.size,1,none⟩=some (.slice (some ⟨ab,ao,none⟩) m d)∧V.cell? ⟨w.heap.size+1,0,none⟩=some (.slice (some ⟨qb,qo,none⟩) L cq)∧V.cell? ⟨qb,qo+i,none⟩=some (.slice (some ⟨rb,ro,none⟩) n lc)∧V.cell? ⟨ab,ao+a*3,none⟩=some (.int .i64 u)∧V.cell? ⟨ab,ao+a*3+1,none⟩=some (.int .i64 v)∧V.cell? ⟨rb,ro+v,none⟩=some (.int .i64 p)∧V.cell? ⟨rb,ro+u,none⟩=some (.int .i64 q)∧V.cell? ⟨xb,xo+j,none⟩=some (.int .i64 a) from
    fun V hV=>⟨by rw [(hXr.below hV hXr.lt).cell];rfl,by rw [(hYr.below hV hYr.lt).cell];rfl,Zc hV (Zn _) hrow,Zc hV (Zn _) y1,Zc hV (Zn _) y2,Zc hV (Zn _) cp,Zc hV (Zn _) cq',Zc hV (Zn _) hcx⟩)
   have HCX:=Zh hx;have HXB:=Zh (show w2.heap.size<xb∧xb<w6.heap.size from ⟨by have:=HXlo.out xb rfl;omega,hxb6⟩);have HIV0:=Zh hI;have HXV0:=Zh hXj;have HWV0:=Zh hbl2w;clear hx hay hu0 hp1 hq1 hp3 hq3 cp cq' hrow y1 y2 y3 hXr hYr hcx hI hXj hbl2w hbww hc6 hxb6;generalize ((Qas N.ar l).take j).filter (fun a=>toC N.ar l a == (p:Int))=lp at *;generalize ((Qas N.ar l).take j).filter (fun a=>frC N.ar l a == (q:Int))=lq at *;(go_wp2_with fail);refine wp_region_held_drew (S:=fun V=>Below wr.heap.size wr V) (by kernel_rfl) (Zr _ _).drew (fun _=>?_);refine tzd 0 33 ?_;refine tzd 4 37 ?_;refine tzd 8 41 ?_;refine tzd 12 45 ?_;refine tz 16 49 ?_;refine tz 17 10 ?_;refine Zd ?_;(go_wp2_with fail);(refine wp_region_held_drew (S:=fun V=>Below wr.heap.size wr V) (by kernel_rfl) (Zr _ _).drew.drew (fun _=>?_);refine tzd 0 50 ?_;refine tzd 4 54 ?_;refine tzd 8 58 ?_;refine tzd 12 62 ?_;refine tz 16 66 ?_;refine tz 17 11 ?_;refine Zd ?_;clear HSX;obtain ⟨V1,hV1⟩:=Zx wr.drew.drew;rw [←hV1];have hbV:Below wr.heap.size wr V1:=by rw [hV1];exact (Zr _ _).drew.drew);have HIV:=Zh (HIV0.out.below hbV);have HXV:=Zh (HXV0.out.below hbV);have HWV:=Zh (Zb HWV0.out hbV);have HZV:=Zh (Yx hsz6 hbV.size);have HLX:=Zh HP1.out;clear hV1 hbV HIV0 HXV0 HWV0 hsz6;(go_wp2_with fail);obtain ⟨Ac,cc,lc,ec,cwc,ffc,hoc⟩:=HIV.out.row (u:=p*2) (by omega);rw [HLX.out] at ec;cases ec;have hXt:=HXV.out.at_ hlt2;obtain ⟨xb',xo',x',ee,hx',hcx⟩:=hXt;cases ee;rw [HCX.out] at hx';cases hx';(have hxA:∀ g,Qab Ac=some g→g≠xb∧g≠w2.heap.size:=fun g e=>by have h1:=(hoc.lt g e).1;have:=HXB.out;omega);(have hoz:=HWV.out.size;refine Qbj 15 (S:=fun V=>V.cell? ⟨w2.heap.size,p*2,none⟩=some (.slice Ac lp.length cc)∧V.cell? ⟨xb,xo+j,none⟩=some (.int .i64 (a:Int))) (by kernel_rfl) ⟨cwc,hcx⟩ (fun _=>?_);refine tkF 0 67 (h:=⟨_,tv,?_⟩);simp only [pE,List.set];refine tkF 1 68 (h:=⟨_,tv,?_⟩);simp only [pE,List.set];refine tkF 2 69 (h:=⟨_,tv,?_⟩);simp only [pE,List.set];refine tkF 3 70 (h:=⟨_,tv,?_⟩);simp only [pE,List.set];refine tkF 4 71 (h:=⟨_,tv,?_⟩);simp only [pE,List.set];refine tkF 5 72 (h:=⟨_,tv,?_⟩);simp only [pE,List.set];refine tkK 6 73 (h:=⟨_,tv,?_⟩);simp only [pE,List.set];refine tkF 7 74 (h:=⟨_,tv,?_⟩);simp only [pE,List.set];refine tkF 8 75 (h:=⟨_,tv,?_⟩);simp only [pE,List.set];refine tkF 9 76 (h:=⟨_,tv,?_⟩);simp only [pE,List.set];refine tkK 10 77 (h:=⟨_,tv,?_⟩);simp only [pE,List.set];obtain ⟨w9,hw9⟩:=Zx ((V1.alloc (.cells #[.int .i64 (a:Int)] 3)).drew);have hb9:Below V1.heap.size V1 w9:=by rw [hw9];exact ((Zr _ _).alloc (Zn _) _).drew);(have hI9:=HIV.out.below hb9;have hX9:=HXV.out.below hb9;have hrd9:Rds w9 1 (some ⟨V1.heap.size,0,none⟩) 1 (Qag [(a:Int)]):=by rw [hw9];exact ((Blk.new V1 3 (Qcf [(a:Int)])).drew).rds rfl);(have hro9:=hoc.below hb9;have hrc9:=Zc hb9 (Zn _) cwc;have hcx9:=Zc hb9 (Zn _) hcx;have hwb9:=Zb HWV.out hb9;have hsz9:w6.heap.size≤w9.heap.size:=Yx HZV.out hb9.size;refine Qbn (i:=11) (by kernel_rfl) (by rfl) rfl (fun K hK=>?_);go_simp;rw [←hw9];refine hK.out _ _ ⟨hrc9,hcx9⟩ (fun _=>?_);clear hK K hw9;refine Qbn (i:=12) (by kernel_rfl) (by rfl) rfl (fun K hK=>?_);with_reducible refine Qax (some 79) rfl rfl (.tmp 73) (.tmp 78) 61 rfl 3 _ 1 8 Qbo underlying61 rfl (by omega) rfl rfl hro9 hrd9 (Qao _) (by omega) (by omega) hsz9 ?_);intro RA' rc' w10 ho10 hg10 hat10;have hcg:w10.cell? ⟨w2.heap.size,p*2,none⟩=some (.slice Ac lp.length cc):=by{exact Kcl};have hcy:w10.cell? ⟨xb,xo+j,none⟩=some (.int .i64 (a:Int)):=by{exact Kcs};obtain ⟨xf,hfv,hff⟩:=hI9.cellG (u:=p*2) (by omega) hg10 (hro9.ne (by omega));refine hK.out _ _ ⟨hcg,hcy⟩ (fun _=>?_);clear hK K;simp only [Act.put,Yi,Yj,Yk];have hIF:=hI9.push HLX.out hrc9 ho10 hg10 hat10;have hbF:Below w2.heap.size w2 (w10.setCell ⟨w2.heap.size,p*2,none⟩ (.slice RA' (lp.length+1) rc')):=Zi (hwb9.grown hg10 (by omega) (fun g e=>by have:=(hro9.lt g e).1;omega)) (by omega)
   have hXF:RdI (w10.setCell ⟨w2.heap.size,p*2,none⟩ (.slice RA' (lp.length+1) rc')) (some ⟨xb,xo,none⟩) K (Qas N.ar l) :=
    (RdK.grownN hX9 hg10 (fun g hg e=>(hxA g e).1 (by cases hg;rfl))).far _ (fun e=>by have:=HXB.out;have e2:xb=w2.heap.size:=Yv e;omega)
   (have hzF:w6.heap.size≤(w10.setCell ⟨w2.heap.size,p*2,none⟩ (.slice RA' (lp.length+1) rc')).heap.size:=by have:=hg10.size;simp [World.setCell];omega);refine tkF 13 80 (h:=⟨_,tv,?_⟩);simp only [pE,List.set];refine tkF 14 81 (h:=⟨_,tv,?_⟩);simp only [pE,List.set];refine Qbt (k:=15) (by kernel_rfl) rfl (fun K hK=>?_);go_simp;refine hK.out _ _ ?_;clear hK K;refine Qbp (by kernel_rfl) ?_ _;obtain ⟨V2,hVO⟩:=Zx (w10.setCell ⟨w2.heap.size,p*2,none⟩ (.slice RA' (lp.length+1) rc'));rw [←hVO] at hIF hbF hXF hzF ⊢;clear hVO hcg hcy hfv hff ho10 hg10 hat10 hI9 hX9 hrd9 hro9 hrc9 hcx9 hwb9 hsz9 hb9 hxA hoz cwc ffc hoc hcx HIV HXV HZV HWV HLX;have HIV:=Zh hIF;have HXV:=Zh hXF;have HZV:=Zh hzF;have HWV:=Zh hbF;clear hIF hbF hXF hzF;have HLX:=Zh (show ((Qdy (toC N.ar l) (frC N.ar l) ((Qas N.ar l).take j) M).set (p*2) (lp ++[(a:Int)]))[q*2+1]?=some lq by rw [Yh (by omega)];exact HQ1.out);(go_wp2_with fail);obtain ⟨Ac,cc,lc,ec,cwc,ffc,hoc⟩:=HIV.out.row (u:=q*2+1) (by omega);rw [HLX.out] at ec;cases ec;have hXt:=HXV.out.at_ hlt2;obtain ⟨xb',xo',x',ee,hx',hcx⟩:=hXt;cases ee;rw [HCX.out] at hx';cases hx';(have hxA:∀ g,Qab Ac=some g→g≠xb∧g≠w2.heap.size:=fun g e=>by have h1:=(hoc.lt g e).1;have:=HXB.out;omega);(have hoz:=HWV.out.size;refine Qbj 15 (S:=fun V=>V.cell? ⟨w2.heap.size,q*2+1,none⟩=some (.slice Ac lq.length cc)∧V.cell? ⟨xb,xo+j,none⟩=some (.int .i64 (a:Int))) (by kernel_rfl) ⟨cwc,hcx⟩ (fun _=>?_);refine tkF 0 82 (h:=⟨_,tv,?_⟩);simp only [pE,List.set];refine tkF 1 83 (h:=⟨_,tv,?_⟩);simp only [pE,List.set];refine tkF 2 84 (h:=⟨_,tv,?_⟩);simp only [pE,List.set];refine tkF 3 85 (h:=⟨_,tv,?_⟩);simp only [pE,List.set];refine tkF 4 86 (h:=⟨_,tv,?_⟩);simp only [pE,List.set];refine tkF 5 87 (h:=⟨_,tv,?_⟩);simp only [pE,List.set];refine tkK 6 88 (h:=⟨_,tv,?_⟩);simp only [pE,List.set];refine tkF 7 89 (h:=⟨_,tv,?_⟩);simp only [pE,List.set];refine tkF 8 90 (h:=⟨_,tv,?_⟩);simp only [pE,List.set];refine tkF 9 91 (h:=⟨_,tv,?_⟩);simp only [pE,List.set];refine tkK 10 92 (h:=⟨_,tv,?_⟩);simp only [pE,List.set];obtain ⟨w9,hw9⟩:=Zx ((V2.alloc (.cells #[.int .i64 (a:Int)] 3)).drew);have hb9:Below V2.heap.size V2 w9:=by rw [hw9];exact ((Zr _ _).alloc (Zn _) _).drew);(have hI9:=HIV.out.below hb9;have hX9:=HXV.out.below hb9;have hrd9:Rds w9 1 (some ⟨V2.heap.size,0,none⟩) 1 (Qag [(a:Int)]):=by rw [hw9];exact ((Blk.new V2 3 (Qcf [(a:Int)])).drew).rds rfl);(have hro9:=hoc.below hb9;have hrc9:=Zc hb9 (Zn _) cwc;have hcx9:=Zc hb9 (Zn _) hcx;have hwb9:=Zb HWV.out hb9;have hsz9:w6.heap.size≤w9.heap.size:=Yx HZV.out hb9.size;refine Qbn (i:=11) (by kernel_rfl) (by rfl) rfl (fun K hK=>?_);go_simp;rw [←hw9];refine hK.out _ _ ⟨hrc9,hcx9⟩ (fun _=>?_);clear hK K hw9;refine Qbn (i:=12) (by kernel_rfl) (by rfl) rfl (fun K hK=>?_);with_reducible refine Qax (some 94) rfl rfl (.tmp 88) (.tmp 93) 61 rfl 3 _ 1 8 Qbo underlying61 rfl (by omega) rfl rfl hro9 hrd9 (Qao _) (by omega) (by omega) hsz9 ?_);intro RA' rc' w10 ho10 hg10 hat10;have hcg:w10.cell? ⟨w2.heap.size,q*2+1,none⟩=some (.slice Ac lq.length cc):=by{exact Kcl};have hcy:w10.cell? ⟨xb,xo+j,none⟩=some (.int .i64 (a:Int)):=by{exact Kcs};obtain ⟨xf,hfv,hff⟩:=hI9.cellG (u:=q*2+1) (by omega) hg10 (hro9.ne (by omega));refine hK.out _ _ ⟨hcg,hcy⟩ (fun _=>?_);clear hK K;simp only [Act.put,Yi,Yj,Yk];have hIF:=hI9.push HLX.out hrc9 ho10 hg10 hat10;have hbF:Below w2.heap.size w2 (w10.setCell ⟨w2.heap.size,q*2+1,none⟩ (.slice RA' (lq.length+1) rc')):=Zi (hwb9.grown hg10 (by omega) (fun g e=>by have:=(hro9.lt g e).1;omega)) (by omega)
   have hXF:RdI (w10.setCell ⟨w2.heap.size,q*2+1,none⟩ (.slice RA' (lq.length+1) rc')) (some ⟨xb,xo,none⟩) K (Qas N.ar l) :=
    (RdK.grownN hX9 hg10 (fun g hg e=>(hxA g e).1 (by cases hg;rfl))).far _ (fun e=>by have:=HXB.out;have e2:xb=w2.heap.size:=Yv e;omega)
   (have hzF:w6.heap.size≤(w10.setCell ⟨w2.heap.size,q*2+1,none⟩ (.slice RA' (lq.length+1) rc')).heap.size:=by have:=hg10.size;simp [World.setCell];omega);refine tkF 13 95 (h:=⟨_,tv,?_⟩);simp only [pE,List.set];refine tkF 14 96 (h:=⟨_,tv,?_⟩);simp only [pE,List.set];refine Qbt (k:=15) (by kernel_rfl) rfl (fun K hK=>?_);go_simp;refine hK.out _ _ ?_;clear hK K;refine Qbp (by kernel_rfl) ?_ _;obtain ⟨V3,hVO⟩:=Zx (w10.setCell ⟨w2.heap.size,q*2+1,none⟩ (.slice RA' (lq.length+1) rc'));rw [←hVO] at hIF hbF hXF hzF ⊢;clear hVO hcg hcy hfv hff ho10 hg10 hat10 hI9 hX9 hrd9 hro9 hrc9 hcx9 hwb9 hsz9 hb9 hxA hoz cwc ffc hoc hcx HIV HXV HZV HWV HLX;have HIV:=Zh hIF;have HXV:=Zh hXF;have HZV:=Zh hzF;have HWV:=Zh hbF;clear hIF hbF hXF hzF;have hIF:=HIV.out;rw [←HNX.out] at hIF;have HIF:=Zh hIF;clear hIF HIV;(go_wp2_with fail);go_roundw;(case rel=>exact ⟨HZV.out,HWV.out,j+1,by omega,by go_num,HXV.out,HIF.out⟩);case measure=>simp [intOf];omega
end Go.Proofs.YtdheeddnkdhfeaaGreatDoor
