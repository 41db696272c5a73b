/- Parts of the proof: AsC, AsN, AsO, AsS. -/
import Derived.Test.YteaoiabikjnkeaaGreatDoorP1
import Derived.Test.YteaoiabikjnkeaaGreatDoorP5
import Derived.Test.YteaoiabikjnkeaaGreatDoorP11
import Derived.Test.YteaoiabikjnkeaaGreatDoorP14
import Derived.Test.YteaoiabikjnkeaaGreatDoorP17
import Derived.Test.YteaoiabikjnkeaaGreatDoorP19
namespace Go.Proofs.YteaoiabikjnkeaaGreatDoor
open Go.RowKit Tryz
attribute [local go_sem ↓] Go.wp_at_zero Go.wp_at_succ
theorem Qqv (w:World)(x:Int)(h0:1152921504606846976<x) :
 Calls prog 98 #[.int .i64 x] w fun e w'=>e=.returned (.int .i64 1152921504606846976)∧w=w':=by
 have e1:decide (x<0)=false:=by simp;omega
 have e2:decide (1152921504606846976<x)=true:=by simp;omega
 go_enter func98,ntmps98
 go_wp2_with fail
 go_ret
 exact ⟨rfl,rfl⟩
theorem Qec (w:World)(x y:Int)(h0:0≤x∧x≤1152921504606846976)(h1:0≤y∧y≤1152921504606846976) :
 Calls prog 43 #[.int .i64 x,.int .i64 y] w fun e w'=>e=.returned (.int .i64 (Qce x y))∧w=w':=by
 have HX:=Zh (Qdh w x h0.1 h0.2);have HY:=Zh (Qdh w y h1.1 h1.2)
 have HZ:=Zh (show Calls prog 98 #[.int .i64 (x+y)] w fun e w'=>e=.returned (.int .i64 (Qce x y))∧w=w' by
  unfold Qce
  split
  · exact Qqv w (x+y) (by omega)
  · exact Qdh w (x+y) (by omega) (by omega))
 have e1:IntKind.i64.wrap (x+y)=x+y:=IntWalk.i64_in _ (by omega)
 go_enter func43,ntmps43
 go_wp2_with fail
 with_reducible refine HX.out.mono ?_
 rintro e w' ⟨rfl,rfl⟩
 go_wp2_with fail
 with_reducible refine HY.out.mono ?_
 rintro e w' ⟨rfl,rfl⟩
 go_wp2_with fail
 with_reducible refine HZ.out.mono ?_
 rintro e w' ⟨rfl,rfl⟩
 go_wp2_with fail
 go_ret
 exact ⟨rfl,rfl⟩
theorem Qxh {x:Int}(h:x≤1152921504606846976):Qce 0 x=x:=by
 unfold Qce
 split <;> omega
theorem Qqq (A:Option Addr)(c:Nat)(w:World)(x y z:Int) (h:RdI w A 3 [x,y,z]) (h0:0≤x∧x≤1152921504606846976) (h1:0≤y∧y≤1152921504606846976) (h2:0≤z∧z≤1152921504606846976) :
 Calls prog 126 #[.slice A 3 c] w fun e w'=>e=.returned (.int .i64 (Qce (Qce x y) z))∧w=w':=by
 obtain ⟨b,o,rfl,c0⟩:=h.2 0 x rfl;obtain ⟨b',o',e',c1⟩:=h.2 1 y rfl
 cases e'
 obtain ⟨b',o',e',c2⟩:=h.2 2 z rfl
 cases e'
 rw [Nat.add_zero] at c0;clear h;have HX:=Zh (show Calls prog 43 #[.int .i64 0,.int .i64 x] w fun e w'=>e=.returned (.int .i64 x)∧w=w' from by have:=Qec w 0 x (by omega) h0;rw [Qxh h0.2] at this;exact this)
 have HY:=Zh (Qec w x y h0 h1);have gb:=Qhd h0.1 h1.1;have HZ:=Zh (Qec w (Qce x y) z ⟨gb.1,gb.2.1⟩ h2);obtain ⟨u,hu⟩:∃ u,u=Qce x y:=⟨_,rfl⟩;rw [←hu] at HY HZ ⊢;obtain ⟨v,hv⟩:∃ v,v=Qce u z:=⟨_,rfl⟩;rw [←hv] at HZ ⊢;clear hu hv gb
 go_enter func126,ntmps126
 go_wp2_with fail
 go_loopw [3,8] (fun s i W=>W=w∧((s=.int .i64 0∧i=.int .i64 0)∨(s=.int .i64 x∧i=.int .i64 1)∨(s=.int .i64 u∧i=.int .i64 2)∨(s=.int .i64 v∧i=.int .i64 3))) (fun _ i _=>3-(intOf i).toNat)
 case atStart=>exact ⟨rfl,.inl ⟨rfl,rfl⟩⟩
 case round =>
  obtain ⟨rfl,⟨rfl,rfl⟩|⟨rfl,rfl⟩|⟨rfl,rfl⟩|⟨rfl,rfl⟩⟩:=hrel
  · go_wp2_with fail
    with_reducible refine HX.out.mono ?_
    rintro e w' ⟨rfl,rfl⟩
    go_wp2_with fail
    go_roundw
    case rel=>exact ⟨by trivial,.inr (.inl ⟨rfl,rfl⟩)⟩
    case measure=>simp [intOf]
  · go_wp2_with fail
    with_reducible refine HY.out.mono ?_
    rintro e w' ⟨rfl,rfl⟩
    go_wp2_with fail
    go_roundw
    case rel=>exact ⟨by trivial,.inr (.inr (.inl ⟨rfl,rfl⟩))⟩
    case measure=>simp [intOf]
  · go_wp2_with fail
    with_reducible refine HZ.out.mono ?_
    rintro e w' ⟨rfl,rfl⟩
    go_wp2_with fail
    go_roundw
    case rel=>exact ⟨by trivial,.inr (.inr (.inr ⟨rfl,rfl⟩))⟩
    case measure=>simp [intOf]
  · go_wp2_with fail
    go_ret
    exact ⟨rfl,rfl⟩
end Go.Proofs.YteaoiabikjnkeaaGreatDoor
namespace Go.Proofs.YteaoiabikjnkeaaGreatDoor
open Go.RowKit Go.Maps Go.WideMaps Tryz
attribute [local go_sem ↓] Go.wp_at_zero Go.wp_at_succ
theorem MpQ.at_ {W W':World}{b n:Nat}{f:Nat→Nat→Option Value}(h:MpQ W b n f) (e:W'.heap[b]?=W.heap[b]?):MpQ W' b n f:=by
 obtain ⟨D,⟨es,clock,h1,h2⟩,h3⟩:=h;exact ⟨D,⟨es,clock,e.trans h1,h2⟩,h3⟩
theorem Qru {w:World}{o:Oper}{a:Act}{K:Act→World→Prop}{Q:Exit→Act→World→Prop}{b n:Nat}{f:Nat→Nat→Option Value}(m x v:Operand)(hop:o.op=Op.mapUpdate 199 m x v)(i k:Nat)(u:Value) (hm:a.eval m=.map (some b)) (h:MpQ w b n f) (hn:n≤1000000000) (hx:a.eval x=.agg #[.int .i64 i,.int .i64 k]) (hv:a.eval v=u) (hi:i≤1000000000000) (hk:k≤1000000000000)
 (hK:∀ w',MpQ w' b (n+1) (fun p q=>if p=i∧q=k then some u else f p q)→w.grownBy w' (some b)→K (a.put o.dst undef) w'):Oper.wp prog o a w K Q:=by
 obtain ⟨D,h1,h2,h3⟩:=h;obtain ⟨w',hrun,g1,g2⟩:=h1.update Qmo underlying199 (by unfold maxLen;omega) (Qsa hi hk) (show RV u=some (.held u,[]) from rfl)
 have hf:=hK w' ⟨_,g1,h2.put _ _,fun p q hp hq=>by
  have hkl:WideAt.IsKeyLit (kq i k):=by simp [WideAt.IsKeyLit,kq]
  by_cases e:p=i∧q=k
  · obtain ⟨rfl,rfl⟩:=e
    simp only [and_self,if_pos];exact ⟨has_put_same h2 hkl _,fun v e z=>by cases e;exact atKey_put_same h2 hkl _ _⟩
  · simp only [if_neg e]
    exact ⟨(has_put_other (kq_ne hp hq hi hk e) _).trans (h3 p q hp hq).1,fun v e2 z=>(atKey_put_other (kq_ne hp hq hi hk e) _ _).trans ((h3 p q hp hq).2 v e2 z)⟩⟩ g2
 unfold Oper.wp;simp [execOp,hop,hm,hx,hv,hrun,Result.andThen];exact hf
def MpC (V:World)(G:Nat→Prop)(ar:List Tri) (ls:List (List Int)) (f:Nat→Nat→Option Value):Prop :=
 ∀ i k u,f i k=some u→∃ j l x A1 n1 c1 A2 n2 c2,i=j+1∧ls[j]?=some l∧(Qaf ar l)[k]?=some x∧u=.agg #[.slice A1 n1 c1,.slice A2 n2 c2]∧RdI (msk V G) A1 n1 x.1∧RdI (msk V G) A2 n2 x.2
theorem MpC.le {V V':World}{G G':Nat→Prop}{ar:List Tri} {ls:List (List Int)} {f:Nat→Nat→Option Value} (h:MpC V G ar ls f) (hl:Le (msk V G) (msk V' G')):MpC V' G' ar ls f:=fun i k u hu=>by
 obtain ⟨j,l,x,A1,n1,c1,A2,n2,c2,h1,h2,h3,h4,h5,h6⟩:=h i k u hu;exact ⟨j,l,x,A1,n1,c1,A2,n2,c2,h1,h2,h3,h4,h5.le hl,h6.le hl⟩
theorem MpC.put {V:World}{G:Nat→Prop}{ar:List Tri} {ls:List (List Int)} {f:Nat→Nat→Option Value} (h:MpC V G ar ls f) {j k:Nat} {l:List Int} {x:Qan} {A1 A2:Option Addr} {n1 n2 c1 c2:Nat} (hl:ls[j]?=some l) (hx:(Qaf ar l)[k]?=some x) (h1:RdI (msk V G) A1 n1 x.1) (h2:RdI (msk V G) A2 n2 x.2) :
 MpC V G ar ls (fun p q=>if p=j+1∧q=k then some (.agg #[.slice A1 n1 c1,.slice A2 n2 c2]) else f p q):=fun p q u hu=>by
 simp only at hu
 by_cases e:p=j+1∧q=k
 · rw [if_pos e] at hu
   cases hu
   obtain ⟨rfl,rfl⟩:=e;exact ⟨j,l,x,A1,n1,c1,A2,n2,c2,rfl,hl,hx,rfl,h1,h2⟩
 · rw [if_neg e] at hu
   exact h p q u hu
structure Nxw (mb:Nat) (w w':World):Prop where
 kept:Qbk (fun b=>b≠mb) w w'
 size:w.heap.size≤w'.heap.size
 bel:∀ B,B≤mb→Below B w w'
theorem Nxw.below {mb:Nat}{w w':World}(h:Below w.heap.size w w')(hm:mb<w.heap.size):Nxw mb w w':=⟨Qbk.below h,h.size,fun B hB=>h.mono (by omega)⟩
theorem Nxw.grown {mb:Nat}{w w':World} (h:w.grownBy w' (some mb)) (hm:mb<w.heap.size):Nxw mb w w':=⟨Qbk.grown h (fun _ hb e=>hb (by injection e with e;exact e.symm)),h.size,fun B hB=>⟨h.os,h.tape,h.output,h.size,fun k hk=>h.block k (by omega) (fun e2=>by injection e2;omega)⟩⟩
theorem Nxw.trans {mb:Nat}{a b c:World}(h:Nxw mb a b)(k:Nxw mb b c):Nxw mb a c:=⟨h.kept.trans k.kept h.size,Nat.le_trans h.size k.size,fun B hB=>(h.bel B hB).trans (k.bel B hB)⟩
def G2 (G:Nat→Prop)(w w':World):Nat→Prop:=fun b=>G b∨(w.heap.size≤b∧b<w'.heap.size)
theorem G2.le {G:Nat→Prop}{mb:Nat}{w w':World}(h:Nxw mb w w')(hG:¬G mb):Le (msk w G) (msk w' (G2 G w w')) :=
 (Qbk.msk (h.kept.mono (fun _ hb e=>hG (e▸hb)))).trans (Qbh (fun _ hb=>.inl hb))
theorem run_cutG {P:Program}(t e:TypeId) (ht:P.underlying t=some (.slice e)) (he:P.elem t=e) (hs:(P.info? e).map (·.size)=some 1) (A:Option Addr) (n c lo r:Nat) (hlo:lo+r≤c) (h0:0<r) (w:World) :
 (Instr.slice t (.slice A n c) (some (.int .i64 (lo:Int))) (some (.int .i64 ((lo:Int)+(r:Int)))) none).run P w=.ok (.slice (A.map (·.add lo)) r (c-lo)) w:=by
 rw [run_slice_lh (P:=P) w t A n c (by rw [he];exact ht) .i64 .i64 (lo:Int) ((lo:Int)+(r:Int)) (by omega) (by omega) (by omega),he];have e1:((lo:Int)).toNat=lo:=by omega
 have e2:((lo:Int)+(r:Int)).toNat=lo+r:=by omega
 have e3:¬c=lo:=by omega
 rw [e1,e2]
 cases hi:P.info? e with
 | none=>rw [hi] at hs;cases hs
 | some i =>
  rw [hi] at hs;simp at hs;simp [sizeOf,typeInfo,hi,Result.andThen,hs,sliced,e3]
theorem Qsw (A:Option Addr)(n c lo r:Nat)(hlo:lo+r≤c)(h0:0<r)(W:World):(Instr.slice 34 (.slice A n c) (some (.int .i64 (lo:Int))) (some (.int .i64 ((lo:Int)+(r:Int)))) none).run prog W=.ok (.slice (A.map (·.add lo)) r (c-lo)) W :=
 run_cutG 34 2 underlying34 (by kernel_rfl) (by kernel_rfl) A n c lo r hlo h0 W
theorem RdI.sub {w:World}{A:Option Addr}{n:Nat}{l:List Int}(h:RdI w A n l)(lo r:Nat)(hr:lo+r≤n):RdI w (A.map (·.add lo)) r ((l.drop lo).take r):=by
 refine ⟨by rw [List.length_take,List.length_drop,h.1];omega,fun i x hi=>?_⟩;have hir:i<r:=by have:=(Zs hi).1;rw [List.length_take] at this;omega
 rw [List.getElem?_take_of_lt hir,List.getElem?_drop] at hi;obtain ⟨b,o,rfl,hc⟩:=h.2 _ x hi;refine ⟨b,o+lo,?_,by rw [Nat.add_assoc];exact hc⟩;simp only [Option.map_some,Addr.add]
 split
 · rename_i h0;rw [show lo=0 by omega];rfl
 · rfl
theorem set_take {cs:List Int}{i n:Nat}{z:Int} (h:cs[i]?=some z) (hn:i<n) (hl:cs.length=n):(cs.take i ++List.replicate (n-i) 0).set i z=cs.take (i+1) ++List.replicate (n-(i+1)) 0:=by
 have hl2:(cs.take i).length=i:=by rw [List.length_take];omega
 rw [List.set_append_right _ _ (by rw [hl2];exact Zn _),hl2,Nat.sub_self,List.take_succ_eq_append_getElem (by omega),(Zs h).2];obtain ⟨m,hm⟩:∃ m,n-i=m+1:=⟨n-i-1,by omega⟩;rw [hm,show n-(i+1)=m by omega]
 simp [List.replicate_succ]
end Go.Proofs.YteaoiabikjnkeaaGreatDoor
namespace Go.Proofs.YteaoiabikjnkeaaGreatDoor
open Go.RowKit Tryz
attribute [local go_sem ↓] Go.wp_at_zero Go.wp_at_succ
theorem Own.rdM {w:World}{B n c:Nat}{e:TypeId}{A:Option Addr}{l:List Int}{G:Nat→Prop} (h:Own w B e 1 A n c (Qag l)) (hG:∀ b,B≤b→b<w.heap.size→G b):RdI (msk w G) A n l:=by
 have hr:=h.rds.rdI;refine ⟨hr.1,fun i x hi=>?_⟩;obtain ⟨b,o,rfl,hc⟩:=hr.2 i x hi;have:=h.lt b rfl;exact ⟨b,o,rfl,Qba.2 ⟨hG b this.1 this.2,hc⟩⟩
theorem Blk.rdM {w:World}{g:Nat}{t:TypeId}{l:List Int}{G:Nat→Prop} (h:Blk w g t (Qca l)) (hG:G g):RdI (msk w G) (some ⟨g,0,none⟩) l.length l :=
 ⟨rfl,fun i x hi=>⟨g,0,rfl,by rw [Nat.zero_add];exact Qba.2 ⟨hG,h.cellI hi⟩⟩⟩
set_option maxHeartbeats 2000000 in
theorem next0_ok (w:World)(qb g o:Nat)(N:Qao) (ls:List (List Int)) (s t:Nat) (CA:Option Addr) (NC cC:Nat) (cl:List Int) (Q:Option Addr) (L cq mb bb na a:Nat) (x:Tri) (h:QR w qb g o N ls s t CA NC cC cl Q L cq mb bb na) (hok:Qat N) (hx:N.ar[a]?=some x) :
 Calls prog 124 #[.pointer (some ⟨qb,0,none⟩),.int .i64 0,.int .i64 a] w fun e w'=>∃ (O C:Option Addr) (nO cO cC':Nat),e=.returned (.tuple #[.slice O nO cO,.slice C nO cC']) ∧
  RdI (msk w' (fun b=>w.heap.size≤b∧b<w'.heap.size)) O nO (idx (·.1) N.ar x.2.1)∧RdI (msk w' (fun b=>w.heap.size≤b∧b<w'.heap.size)) C nO ((idx (·.1) N.ar x.2.1).map (fun b=>Qak N a b.toNat))∧nO≤16384∧Below w.heap.size w w':=by
 obtain ⟨u,v,e1,e2,hu,hv⟩:=Qfz hok hx;obtain ⟨os,hos⟩:∃ os,os=idx (·.1) N.ar x.2.1:=⟨_,rfl⟩;obtain ⟨no,hno⟩:∃ no,no=os.length:=⟨_,rfl⟩
 have hnl:no≤16384:=by
  rw [hno,hos];have:=Qem (·.1) N.ar N.ar.length x.2.1;rw [List.take_length] at this;have:=hok.la;omega
 have HTO:=Zh (Qhe g a N x w h.gr hx);have HOU:=Zh (show Calls prog 177 #[.pointer (some ⟨g,0,none⟩),.int .i64 x.2.1] w fun e w'=>∃ A n c,e=.returned (.slice A n c)∧Own w' w.heap.size 3 1 A n c (Qag os)∧Below w.heap.size w w' by rw [hos,e2];exact Qry g v N w h.gr hv)
 have HTN:=Zh (fun V (hV:Below w.heap.size w V) (b:Nat) (y:Tri) (hy:N.ar[b]?=some y)=>Qmv g a b N x y V (h.gr.below hV) hx hy)
 have HCL:=Zh (show ∀ i b,os[i]?=some b→∃ (n:Nat) (y:Tri),b=(n:Int)∧N.ar[n]?=some y from fun i b hb=>by
  rw [hos] at hb;obtain ⟨n,y,rfl,hy,_⟩:=Qfi.1 (Zm hb);exact ⟨n,y,rfl,hy⟩)
 rw [←hos];obtain ⟨cs,hcs⟩:∃ cs,cs=os.map (fun b=>Qak N a b.toNat):=⟨_,rfl⟩;rw [←hcs];have HCS:=Zh (show ∀ i n,os[i]?=some ((n:Nat):Int)→cs[i]?=some (Qak N a n) from fun i n hb=>by rw [hcs,List.getElem?_map,hb];simp)
 have HLC:=Zh (show cs.length=no by rw [hcs,List.length_map,hno])
 have HNO:=Zh hno;have HQ:=Zh (show ∀ V,Below w.heap.size w V→V.cell? ⟨qb,0,none⟩=some (.pointer (some ⟨g,0,none⟩)) from fun V hV=>(h.below hV).q0)
 have q0:=h.q0;have hmk:=Qfb no (by omega);clear h hok hx hos hno hcs e1 e2 hu hv
 go_enter func124,ntmps124
 go_wp2_with fail
 with_reducible refine HTO.out.mono ?_
 rintro r w' ⟨rfl,rfl⟩
 go_wp2_with fail
 with_reducible refine HOU.out.mono ?_
 rintro r w1 ⟨O,nO,cO,rfl,hO,hb1⟩;obtain rfl:no=nO:=by rw [HNO.out];exact hO.rds.rdI.1
 have HO:=Zh hO;have HB1:=Zh hb1;clear hO hb1 q0
 go_wp2_with fail
 (refine Qai ?_;intro w2 hw2)
 have hb2:Below w1.heap.size w1 w2:=by rw [hw2];exact Qah
 have hC2:Blk w2 w1.heap.size 2 (Qca (cs.take 0 ++List.replicate (no-0) 0)):=by rw [hw2,List.take_zero,List.nil_append,Nat.sub_zero,←Qcn];exact Qbd
 have HC2:=Zh hC2;have HB2:=Zh hb2;clear hw2 hC2 hb2
 go_loopw [37] (fun uk V=>∃ kk:Nat,kk≤no∧uk=.int .i64 kk∧Below w1.heap.size w1 V∧Blk V w1.heap.size 2 (Qca (cs.take kk ++List.replicate (no-kk) 0))) (fun uk _=>no-(intOf uk).toNat)
 case atStart=>exact ⟨0,Nat.zero_le _,rfl,HB2.out,HC2.out⟩
 case round =>
  clear HC2 HB2;obtain ⟨kk,hkk,rfl,hb,hC⟩:=hrel;have HB:=Zh hb;have HC:=Zh hC;have hlt1:=hC.lt
  by_cases hlt:kk<no
  rotate_left
  · obtain rfl:kk=no:=by omega
    have j2:¬((kk:Int)<(kk:Int)):=by omega
    clear hb hC
    go_wp2_with fail
    refine bodyPost_ret (v:=.tuple #[.slice O kk cO,.slice (some ⟨w1.heap.size,0,none⟩) kk kk]) (by simp [results,results124,go_sem]) rfl ?_;refine ⟨O,_,kk,⟨cO,kk,rfl⟩,(HO.out.below HB.out).rdM (fun _ h1 h2=>⟨h1,h2⟩),?_,hnl,Zb HB1.out HB.out⟩;have hC:=HC.out;rw [Nat.sub_self,List.replicate_zero,List.append_nil,List.take_of_length_le (by rw [HLC.out];exact Zn _)] at hC;have:=hC.rdM (G:=fun b=>w.heap.size≤b∧b<wr.heap.size) ⟨HB1.out.size,hlt1⟩
    rwa [HLC.out] at this
  · have j2:(kk:Int)<(no:Int):=by omega
    have j3:(0:Int)≤(kk:Int):=by omega
    obtain ⟨ob,oo,z,rfl,hz,c1⟩:=(HO.out.below hb).rds.rdI.at_ hlt;obtain ⟨b,y,rfl,hy⟩:=HCL.out kk z hz;have HY:=Zh hy;have HZ:=Zh (HCS.out kk b hz);have q0:=HQ.out wr (Zb HB1.out hb);have HT:=Zh (HTN.out wr (Zb HB1.out hb) b y hy);clear hb hC hz hy
    go_wp2_with fail
    with_reducible refine HT.out.mono ?_
    rintro r w3 ⟨rfl,hb3⟩;have HB3:=Zh (Zb HB.out hb3);have HC3:=Zh (HC.out.below hb3 hlt1);have hfr:=HC3.out.frozen kk;have HC4:=Zh (HC3.out.setI (set_take HZ.out hlt HLC.out));have HB4:=Zh (Bel.setCell_ (o:=kk) (u:=.int .i64 (Qak N a b)) HB3.out (Zn _))
    have d0:w3.cell? ⟨w1.heap.size,kk,none⟩=some (.int .i64 0):=HC3.out.cellI (by
     rw [List.getElem?_append_right (by rw [List.length_take,HLC.out];omega),List.length_take,HLC.out,Nat.min_eq_left (by omega),Nat.sub_self,List.getElem?_replicate,if_pos (by omega)])
    clear hb3 c1 q0
    go_wp2_with fail
    go_roundw
    case rel=>exact ⟨kk+1,by omega,by go_num,HB4.out,HC4.out⟩
    case measure=>simp [intOf];omega
def NxtR (w:World)(G:Nat→Prop)(mb n:Nat)(N:Qao) (ls:List (List Int)) (av:List Int) (a:Nat) (r:Ending) (w':World):Prop :=
 ∃ (O C:Option Addr) (nO cO cC n':Nat) (os cs:List Int) (f':Nat→Nat→Option Value),r=.returned (.tuple #[.slice O nO cO,.slice C nO cC])∧NxtP N ls av a os cs∧RdI (msk w' (G2 G w w')) O nO os∧RdI (msk w' (G2 G w w')) C nO cs ∧
  MpQ w' mb n' f'∧n'≤n+1∧MpC w' (G2 G w w') N.ar ls f'∧Nxw mb w w'∧nO≤16384
theorem G2.more {G:Nat→Prop}{w V V':World}(h:Below V.heap.size V V'):Le (msk V (G2 G w V)) (msk V' (G2 G w V')) :=
 (Qbk.msk (Qbk.below h)).trans (Qbh (fun _ hb=>hb.imp id (fun h1=>⟨h1.1,Nat.lt_of_lt_of_le h1.2 h.size⟩)))
set_option maxRecDepth 20000 in
set_option maxHeartbeats 2000000 in
theorem next1_ok (w:World)(qb g o:Nat)(N:Qao) (ls:List (List Int)) (s t:Nat) (CA:Option Addr) (NC cC:Nat) (cl:List Int) (Q:Option Addr) (L cq mb bb na a J j:Nat) (y:Tri) (av:List Int) (G:Nat→Prop) (n:Nat) (f:Nat→Nat→Option Value) (h:QR (msk w G) qb g o N ls s t CA NC cC cl Q L cq mb bb na) (hGm:¬G mb) 
 (hm:MpQ w mb n f) (hn:n≤1000000) (hmc:MpC w G N.ar ls f) (hok:Qat N) (hP:Qay N.vs.length ls) (hA:Qdd N ls cl) (hcc:NC≤cC∧cC≤9223372036854775807) (hSm:Qbw (Qae N.ar ls)≤1000000000) (hy:N.ar[a]?=some y) (hg:Qwl N ls av a) (hJ:Qfs ls (toV N a) av=J) (hj:J=j+1) :
 Calls prog 124 #[.pointer (some ⟨qb,0,none⟩),.int .i64 J,.int .i64 a] w (NxtR w G mb n N ls av a):=by
 obtain ⟨l,hl,_⟩:=Qdj (hJ.trans hj);have hlv:=hP.lvl l (Zm hl);have hgd:=hg j l y (hJ.trans hj) hl hy;obtain ⟨_,v,_,e2,_,hv⟩:=Qfz hok hy;obtain ⟨c,hc,hcm,hcv⟩:=Qdm hlv hv;rw [←e2] at hc;obtain ⟨x,hx⟩:∃ x,(Qaf N.ar l)[c]?=some x:=⟨_,Zg (by rw [Qar];exact hcm)⟩;obtain ⟨i,hi⟩:=List.getElem?_of_mem ((Qcw hx).2 ⟨y,hy,by rw [←hc];exact hgd,hc⟩);have HNX:=Zh (Qyd hok hA (hJ.trans hj) hl hy hgd hc hx hi);have hL6:=hP.l6;have hlen:=hlv.len;have hvs:=hok.lv;have hil:=(Zs hi).1;have hll:=(Zs hl).1;have HQ:=Zh (show ∀ V,Nxw mb w V→QR V qb g o N ls s t CA NC cC cl Q L cq mb bb na from fun V hV=>h.le ((G2.le hV hGm).trans (Qbg _ _)))
 have HG2:=Zh (show ∀ V,Nxw mb w V→Le (msk w G) (msk V (G2 G w V)) from fun V hV=>G2.le hV hGm)
 have HMQ:=Zh hm;have HMC:=Zh hmc;have HCL:=Zh h.costs;have HCC:=Zh hcc;have HTO:=Zh (Qhe g a N y w (h.gr.le (Qbg _ _)) hy);rw [e2] at HTO;have HGT:=Zh (fun V (hV:Nxw mb w V)=>Qhs o j c N.ar ls l x V (h.ov.le ((G2.le hV hGm).trans (Qbg _ _))) hl (by omega) hx (by have:=hok.la;omega));have HFR:=Zh (fun V (hV:Nxw mb w V)=>Qxq o j c i N ls l x V (h.ov.le ((G2.le hV hGm).trans (Qbg _ _))) hl hx hil (by omega) hSm);have HSO:=Zh (Qeh hx);have HPI:=Zh (Qex HSO.out hi);have hgl:=Qbl hx;have hla:=hok.la;have HGL:=Zh (show x.1.length≤16384∧x.2.length≤16384 by omega)
 have hq:=(h.le (Qbg _ _));have q0:=hq.q0;have q5:=hq.q5;have q6:=hq.q6;obtain ⟨qb2,qo2,A0,n0,c0,l0,rfl,hl0,k0,k1,_,_⟩:=hq.part.at_ (i:=j) (by have:=hq.part.1;omega);rw [hl] at hl0
 cases hl0
 obtain ⟨kb,ko,z,rfl,hz,k2⟩:=k1.at_ (i:=v) (by rw [←k1.1];omega);rw [hcv] at hz
 cases hz
 have hLL:L=ls.length:=hq.part.1.symm;have hn0:n0=N.vs.length:=by rw [←k1.1];exact hlen
 have m1:(J:Int)-1=(j:Int):=by omega
 have m2:(0:Int)≤(j:Int):=by omega
 have m3:(j:Int)<(L:Int):=by omega
 have m4:(0:Int)≤(v:Int):=by omega
 have m5:(v:Int)<(n0:Int):=by omega
 have m6:((J:Int) == 0)=false:=by simp;omega
 have m7:(j:Int)+1=(J:Int):=by omega
 simp only [m7] at HGT HFR;have wl:IntKind.i64.wrap (j:Int)=(j:Int):=IntWalk.i64_in _ (by omega);have HX0:=Zh (show Nxw mb w w from Nxw.below (Zr _ _) hm.lt)
 have HJ:=Zh hj;have HJL:=Zh (show J≤1000000000000∧c≤1000000000000 by have:=hlv.hi _ (Zm hcv);omega)
 have HL:=Zh hl;have HX:=Zh hx;have HI:=Zh hi;clear h hGm hmc hok hP hA hSm hy hg hJ hl hlv hgd hc hcm hcv hx hi hq k1 e2 hgl hla hlen hvs hj hcc hm hLL hn0 m7 hil hll hL6
 go_enter func124,ntmps124
 go_wp2_with fail
 with_reducible refine HTO.out.mono ?_
 rintro r w' ⟨rfl,rfl⟩
 cases hf:f J c with
 | some u =>
  obtain ⟨j',l',x',A1,n1,c1,A2,n2,c2,ej,hl',hx',rfl,hr1,hr2⟩:=HMC.out J c u hf;obtain rfl:j=j':=by have:=HJ.out;omega
  rw [HL.out] at hl'
  cases hl'
  rw [HX.out] at hx'
  cases hx'
  have HR1:=Zh hr1;have HR2:=Zh hr2;clear ej hr1 hr2
  go_wp2_with (at_lookup;with_reducible refine Qxi rfl _ _ rfl J c rfl HMQ.out rfl HJL.out.1 HJL.out.2 ?_)
  (refine Qad ?_;intro w6 hw6)
  have hb6:Below w.heap.size w w6:=by rw [hw6];exact Qah
  have HC6:=Zh (show Blk w6 w.heap.size 164 #[.slice A1 n1 c1,.slice A2 n2 c2] by rw [hw6];exact Blk.new _ _ _)
  have HX6:=Zh (Nxw.below hb6 HMQ.out.lt);have HMV:=Zh (HMQ.out.below hb6);have HNN:=Zh (show n≤n+1 by omega)
  have HMCV:=Zh (HMC.out.le (HG2.out w6 HX6.out));have HR1:=Zh (HR1.out.le (HG2.out w6 HX6.out));have HR2:=Zh (HR2.out.le (HG2.out w6 HX6.out));clear hw6 hb6 hf;have hq6:=HQ.out w6 HX6.out;have q1:=hq6.q1;have z0:w6.cell? ⟨w.heap.size,0,none⟩=some (.slice A1 n1 c1):=Zq HC6.out;have HPL:=Zh (Qfe A1 n1 c1 x.1 (a:Int) w6 (HR1.out.le (Qbg _ _)) HSO.out (by rw [←HR1.out.1];have:=HGL.out.1;omega));rw [HPI.out] at HPL;clear hq6;with_reducible refine HPL.out.mono ?_
  rintro r w7 ⟨rfl,hb7⟩;have HX7:=Zh (HX6.out.trans (Nxw.below hb7 HMV.out.lt));have HB7:=Zh hb7;have q1:=(HQ.out w7 HX7.out).q1;have HAT:=Zh (HFR.out w7 HX7.out);have w0:¬((i:Int)<0):=by omega
  clear z0 hb7
  by_cases hn0:x.2.length=0
  · have hfr:Qpi (Qae N.ar ls) (Qaf N.ar l) j c x i = -1:=by unfold Qpi;rw [if_pos hn0]
    rw [hfr] at HAT;have HN0:=Zh hn0;clear hfr hn0
    go_wp2_with fail
    with_reducible refine HAT.out.mono ?_
    rintro r w8 ⟨rfl,hb8⟩;have HB8:=Zh (Zb HB7.out hb8);clear hb8 q1
    go_wp2_with fail
    refine wp_region_held_drew (S:=fun V=>V=w8.drew) (by kernel_rfl) rfl (fun _=>?_);refine tz 0 106 ?_;refine tz 1 107 ?_;refine tz 2 108 ?_;refine tz 3 109 ?_;refine tz 4 110 ?_;refine tz 5 111 ?_;refine tz 6 112 ?_;refine tw 7 113 ?_;refine tw 8 114 ?_;refine tw 9 115 ?_;refine tw 10 116 ?_;refine tw 11 117 ?_;refine tw 12 118 ?_;refine tw 13 119 ?_;refine tw 14 120 ?_;refine tw 15 121 ?_;refine tw 16 122 ?_;refine tw 17 123 ?_;refine tz 18 124 ?_;refine Zd ?_;obtain ⟨v9,hv9⟩:∃ V,V=w8.drew:=⟨_,rfl⟩;rw [←hv9];have HB9:=Zh (show Below w6.heap.size w6 v9 by rw [hv9];exact HB8.out.drew)
    clear hv9
    go_wp2_with fail
    refine bodyPost_ret (v:=.tuple #[.slice none 0 0,.slice none 0 0]) (by simp [results,results124,go_sem]) rfl ?_;have hx2:x.2=[]:=List.eq_nil_of_length_eq_zero HN0.out;have hnx:=HNX.out;rw [hx2] at hnx;exact ⟨none,none,0,0,0,n,[],_,f,rfl,hnx,⟨rfl,fun i x h=>by simp at h⟩,⟨by simp,fun i x h=>by simp at h⟩,HMV.out.below HB9.out,HNN.out,HMCV.out.le (G2.more HB9.out),HX6.out.trans (Nxw.below HB9.out HMV.out.lt),by omega⟩
  · obtain ⟨e0,he0⟩:∃ e0,e0=Qgj (Qae N.ar ls) (Qaf N.ar l) j c x i 0:=⟨_,rfl⟩
    have hfr:Qpi (Qae N.ar ls) (Qaf N.ar l) j c x i=(e0:Int):=by unfold Qpi;rw [if_neg hn0,he0]
    rw [hfr] at HAT;have HNX2:=Zh HNX.out;rw [←he0] at HNX2;have hn2:n2=x.2.length:=HR2.out.1.symm;have hlen2:=HNX2.out.len;rw [List.length_take,List.length_drop,HCL.out.1] at hlen2;have hbd:e0+n2≤NC∧0<n2∧n2≤16384:=by have:=HGL.out;omega
    have hcx:=HCC.out;have HCT:=Zh (Qsw CA NC cC e0 n2 (by omega) hbd.2.1);have HBD:=Zh hbd;have w1:¬((e0:Int)<0):=by omega
    have w2:¬((NC:Int)<(e0:Int)+(n2:Int)):=by omega
    have w3:decide ((i:Int)<0)=false:=by simp
    have w4:decide ((e0:Int)<0)=false:=by simp
    have w5:decide ((NC:Int)<(e0:Int)+(n2:Int))=false:=by simp;omega
    have HWR:=Zh (show IntKind.i64.wrap ((e0:Int)+(n2:Int))=(e0:Int)+(n2:Int) from IntWalk.i64_in _ (by omega))
    have hwr:=HWR.out;have hct:=HCT.out;have HN2:=Zh hn2;clear hfr he0 hn0 hn2 hlen2 hbd hcx
    go_wp2_with fail
    with_reducible refine HAT.out.mono ?_
    rintro r w8 ⟨rfl,hb8⟩;have HX8:=Zh (HX7.out.trans (Nxw.below hb8 (Nat.lt_of_lt_of_le HMV.out.lt HB7.out.size)));have HB8:=Zh (Zb HB7.out hb8);have HC8:=Zh (HC6.out.below HB8.out HC6.out.lt);have HSX:=Zh (show ∀ V,Below w8.heap.size w8 V→V.cell? ⟨qb,2,none⟩=some (.slice CA NC cC)∧V.cell? ⟨w.heap.size,1,none⟩=some (.slice A2 n2 c2) from fun V hV=>⟨Zc hV (Zn _) (HQ.out w8 HX8.out).q2,Zc hV (Zn _) (Zq HC8.out)⟩)
    clear hb8 q1
    go_wp2_with fail
    refine wp_region_held_drew (S:=fun V=>Below w8.heap.size w8 V) (by kernel_rfl) (Zr _ _).drew (fun _=>?_);refine tz 0 106 ?_;refine tz 1 107 ?_;refine tz 2 108 ?_;refine tz 3 109 ?_;refine tz 4 110 ?_;refine tz 5 111 ?_;refine tz 6 112 ?_;refine tz 7 113 ?_;refine tz 8 114 ?_;refine tz 9 115 ?_;refine tz 10 116 ?_;refine tz 11 117 ?_;refine tz 12 118 ?_;refine tz 13 119 ?_;refine tz 14 120 ?_;refine tz 15 121 ?_;refine tz 16 122 ?_;refine tz 17 123 ?_;refine tz 18 124 ?_;refine Zd ?_
    go_wp2_with fail
    refine wp_region_held_drew (S:=fun V=>Below w8.heap.size w8 V) (by kernel_rfl) (Zr _ _).drew.drew (fun _=>?_);refine tz 0 125 ?_;refine tz 1 126 ?_;refine tz 2 127 ?_;refine tz 3 128 ?_;refine tz 4 129 ?_;refine tz 5 130 ?_;refine tz 6 131 ?_;refine tz 7 132 ?_;refine tz 8 133 ?_;refine tz 9 134 ?_;refine tz 10 135 ?_;refine tz 11 136 ?_;refine tz 12 137 ?_;refine tz 13 6 ?_;refine tz 14 7 ?_;refine Zd ?_;obtain ⟨v9,hv9⟩:∃ V,V=w8.drew.drew:=⟨_,rfl⟩;rw [←hv9];have HB9:=Zh (show Below w6.heap.size w6 v9 by rw [hv9];exact HB8.out.drew.drew)
    clear hv9
    go_wp2_with fail
    refine bodyPost_ret (v:=.tuple #[.slice A2 n2 c2,.slice (CA.map (·.add e0)) n2 (cC-e0)]) (by simp [results,results124,go_sem]) rfl ?_;have hcl:=HCL.out.sub e0 n2 HBD.out.1;rw [HN2.out] at hcl;refine ⟨A2,_,n2,c2,_,n,x.2,_,f,rfl,HNX2.out,HR2.out.le (G2.more HB9.out),?_,HMV.out.below HB9.out,HNN.out,HMCV.out.le (G2.more HB9.out),HX6.out.trans (Nxw.below HB9.out HMV.out.lt),HBD.out.2.2⟩;rw [HN2.out];exact hcl.le (HG2.out v9 (HX6.out.trans (Nxw.below HB9.out HMV.out.lt)))
 | none =>
  have q1:=(HQ.out w HX0.out).q1;have hqb:qb<w.heap.size:=Qam q1
  go_wp2_with (at_lookup;with_reducible refine Qxi rfl _ _ rfl J c rfl HMQ.out rfl HJL.out.1 HJL.out.2 ?_)
  (refine Qad ?_;intro w6 hw6)
  have hb6:Below w.heap.size w w6:=by rw [hw6];exact Qah
  have hC6:Blk w6 w.heap.size 164 #[.slice none 0 0,.slice none 0 0]:=by rw [hw6];exact Blk.new _ _ _
  have HX6:=Zh (Nxw.below hb6 HMQ.out.lt);clear hw6 hf q1;with_reducible refine (HGT.out w6 HX6.out).mono ?_
  rintro r w7 ⟨A1,n1,c1,A2,n2,c2,rfl,ho1,ho2,hb7⟩;have hC7:=hC6.below hb7 hC6.lt;obtain ⟨z0,z1,f0,f1⟩:=hC7.two;have HO1:=Zh ((ho1.far (Qaa w7 w.heap.size 0 (.slice A1 n1 c1)) (.inr (ho1.ne hC6.lt))).far (Qaa _ w.heap.size 1 (.slice A2 n2 c2)) (.inr (ho1.ne hC6.lt)));have HO2:=Zh ((ho2.far (Qaa w7 w.heap.size 0 (.slice A1 n1 c1)) (.inr (ho2.ne hC6.lt))).far (Qaa _ w.heap.size 1 (.slice A2 n2 c2)) (.inr (ho2.ne hC6.lt)));have HB7:=Zh (Bel.setCell_ (o:=1) (u:=.slice A2 n2 c2) (Bel.setCell_ (o:=0) (u:=.slice A1 n1 c1) (Zb hb6 hb7) (Zn _)) (Zn _));have HC7:=Zh ((hC7.set_ 0 (.slice A1 n1 c1)).set_ 1 (.slice A2 n2 c2));have HZ6:=Zh (show w.heap.size≤w6.heap.size from hb6.size)
  clear ho1 ho2 hC6 hC7 hb6 hb7
  go_wp2_with fail
  (refine Qai ?_;intro w8 hw8)
  have hb8:Below w.heap.size w w8:=by rw [hw8];exact HB7.out
  have HC8:=Zh (show Blk w8 w.heap.size 164 #[.slice A1 n1 c1,.slice A2 n2 c2] by rw [hw8];exact HC7.out)
  have HO1:=Zh (show Own w8 w6.heap.size 3 1 A1 n1 c1 (Qag x.1) by rw [hw8];exact HO1.out)
  have HO2:=Zh (show Own w8 w6.heap.size 3 1 A2 n2 c2 (Qag x.2) by rw [hw8];exact HO2.out)
  have HB8:=Zh hb8;have HX8:=Zh (Nxw.below hb8 HMQ.out.lt);clear hw8 hb8 HB7 HC7;have x6:=(HQ.out w8 HX8.out).q6;have z0:w8.cell? ⟨w.heap.size,0,none⟩=some (.slice A1 n1 c1):=Zq HC8.out;have z1:w8.cell? ⟨w.heap.size,1,none⟩=some (.slice A2 n2 c2):=Zq HC8.out;refine Qbj 8 (S:=fun V=>V.cell? ⟨qb,6,none⟩=some (.map (some mb))∧V.cell? ⟨w.heap.size,0,none⟩=some (.slice A1 n1 c1)∧V.cell? ⟨w.heap.size,1,none⟩=some (.slice A2 n2 c2)) (by kernel_rfl) ⟨x6,z0,z1⟩ (fun _=>?_);refine tkK 0 86 (h:=⟨_,tv,?_⟩);simp only [pE,List.set];refine tkK 1 87 (h:=⟨_,tv,?_⟩);simp only [pE,List.set];refine tkK 2 88 (h:=⟨_,tv,?_⟩);simp only [pE,List.set];refine tkK 3 89 (h:=⟨_,tv,?_⟩);simp only [pE,List.set];refine tkK 4 90 (h:=⟨_,tv,?_⟩);simp only [pE,List.set];refine tkK 5 91 (h:=⟨_,tv,?_⟩);simp only [pE,List.set];refine tkK 6 92 (h:=⟨_,tv,?_⟩);simp only [pE,List.set];refine tkK 7 93 (h:=⟨_,tv,?_⟩);simp only [pE,List.set];have hmq8:MpQ w8.drew mb n f:=(HMQ.out.below HB8.out).at_ rfl;refine Qbu (k:=8) (by kernel_rfl) rfl (fun K hK=>?_);refine (if_pos (by rfl)).mpr ?_;refine Qru _ _ _ rfl J c _ rfl hmq8 (by omega) rfl rfl HJL.out.1 HJL.out.2 (fun w9 hm9 hg9=>?_);refine hK.out _ _ ?_;clear hK K;refine Qbp (by kernel_rfl) ?_ _;clear x6 z0 z1 hmq8;have hX8:Nxw mb w w8.drew:=Nxw.below HB8.out.drew HMQ.out.lt;have HX9:=Zh (hX8.trans (Nxw.grown hg9 (Nat.lt_of_lt_of_le HMQ.out.lt HB8.out.size)));have hC8:Blk w8.drew w.heap.size 164 #[.slice A1 n1 c1,.slice A2 n2 c2]:=HC8.out;have HC9:=Zh (hC8.grown hg9 (fun e=>by have:=HMQ.out.lt;cases e;omega))
  have ho1:Own w8.drew w6.heap.size 3 1 A1 n1 c1 (Qag x.1):=HO1.out;have ho2:Own w8.drew w6.heap.size 3 1 A2 n2 c2 (Qag x.2):=HO2.out;have hmb6:mb<w6.heap.size:=Nat.lt_of_lt_of_le HMQ.out.lt HZ6.out
  have HR1:=Zh (show RdI (msk w9 (G2 G w w9)) A1 n1 x.1 from (ho1.far hg9 (.inr (ho1.ne hmb6))).rdM (fun b h1 h2=>.inr ⟨Nat.le_trans HZ6.out h1,h2⟩))
  have HR2:=Zh (show RdI (msk w9 (G2 G w w9)) A2 n2 x.2 from (ho2.far hg9 (.inr (ho2.ne hmb6))).rdM (fun b h1 h2=>.inr ⟨Nat.le_trans HZ6.out h1,h2⟩))
  have HMV:=Zh hm9;have HNN:=Zh (show n+1≤n+1 from Zn _)
  have hput:=(HMC.out.le (HG2.out w9 HX9.out)).put (c1:=c1) (c2:=c2) HL.out HX.out HR1.out HR2.out;rw [←HJ.out] at hput;have HMCV:=Zh hput;clear hput ho1 ho2 hmb6 hC8 hX8 hg9 hm9 HX8 HC8 HO1 HO2 HB8 HX6;have z0:w9.cell? ⟨w.heap.size,0,none⟩=some (.slice A1 n1 c1):=Zq HC9.out;have HX6:=HX9;have HC6:=HC9;clear HX9 HC9
  go_wp2_with fail
  clear z0;have hq6:=HQ.out w9 HX6.out;have q1:=hq6.q1;have z0:w9.cell? ⟨w.heap.size,0,none⟩=some (.slice A1 n1 c1):=Zq HC6.out;have HPL:=Zh (Qfe A1 n1 c1 x.1 (a:Int) w9 (HR1.out.le (Qbg _ _)) HSO.out (by rw [←HR1.out.1];have:=HGL.out.1;omega));rw [HPI.out] at HPL;clear hq6;with_reducible refine HPL.out.mono ?_
  rintro r w7 ⟨rfl,hb7⟩;have HX7:=Zh (HX6.out.trans (Nxw.below hb7 HMV.out.lt));have HB7:=Zh hb7;have q1:=(HQ.out w7 HX7.out).q1;have HAT:=Zh (HFR.out w7 HX7.out);have w0:¬((i:Int)<0):=by omega
  clear z0 hb7
  by_cases hn0:x.2.length=0
  · have hfr:Qpi (Qae N.ar ls) (Qaf N.ar l) j c x i = -1:=by unfold Qpi;rw [if_pos hn0]
    rw [hfr] at HAT;have HN0:=Zh hn0;clear hfr hn0
    go_wp2_with fail
    with_reducible refine HAT.out.mono ?_
    rintro r w8 ⟨rfl,hb8⟩;have HB8:=Zh (Zb HB7.out hb8);clear hb8 q1
    go_wp2_with fail
    refine wp_region_held_drew (S:=fun V=>V=w8.drew) (by kernel_rfl) rfl (fun _=>?_);refine tz 0 106 ?_;refine tz 1 107 ?_;refine tz 2 108 ?_;refine tz 3 109 ?_;refine tz 4 110 ?_;refine tz 5 111 ?_;refine tz 6 112 ?_;refine tw 7 113 ?_;refine tw 8 114 ?_;refine tw 9 115 ?_;refine tw 10 116 ?_;refine tw 11 117 ?_;refine tw 12 118 ?_;refine tw 13 119 ?_;refine tw 14 120 ?_;refine tw 15 121 ?_;refine tw 16 122 ?_;refine tw 17 123 ?_;refine tz 18 124 ?_;refine Zd ?_;obtain ⟨v9,hv9⟩:∃ V,V=w8.drew:=⟨_,rfl⟩;rw [←hv9];have HB9:=Zh (show Below w9.heap.size w9 v9 by rw [hv9];exact HB8.out.drew)
    clear hv9
    go_wp2_with fail
    refine bodyPost_ret (v:=.tuple #[.slice none 0 0,.slice none 0 0]) (by simp [results,results124,go_sem]) rfl ?_;have hx2:x.2=[]:=List.eq_nil_of_length_eq_zero HN0.out;have hnx:=HNX.out;rw [hx2] at hnx;exact ⟨none,none,0,0,0,(n+1),[],_,(fun p q=>if p=J∧q=c then some (.agg #[.slice A1 n1 c1,.slice A2 n2 c2]) else f p q),rfl,hnx,⟨rfl,fun i x h=>by simp at h⟩,⟨by simp,fun i x h=>by simp at h⟩,HMV.out.below HB9.out,HNN.out,HMCV.out.le (G2.more HB9.out),HX6.out.trans (Nxw.below HB9.out HMV.out.lt),by omega⟩
  · obtain ⟨e0,he0⟩:∃ e0,e0=Qgj (Qae N.ar ls) (Qaf N.ar l) j c x i 0:=⟨_,rfl⟩
    have hfr:Qpi (Qae N.ar ls) (Qaf N.ar l) j c x i=(e0:Int):=by unfold Qpi;rw [if_neg hn0,he0]
    rw [hfr] at HAT;have HNX2:=Zh HNX.out;rw [←he0] at HNX2;have hn2:n2=x.2.length:=HR2.out.1.symm;have hlen2:=HNX2.out.len;rw [List.length_take,List.length_drop,HCL.out.1] at hlen2;have hbd:e0+n2≤NC∧0<n2∧n2≤16384:=by have:=HGL.out;omega
    have hcx:=HCC.out;have HCT:=Zh (Qsw CA NC cC e0 n2 (by omega) hbd.2.1);have HBD:=Zh hbd;have w1:¬((e0:Int)<0):=by omega
    have w2:¬((NC:Int)<(e0:Int)+(n2:Int)):=by omega
    have w3:decide ((i:Int)<0)=false:=by simp
    have w4:decide ((e0:Int)<0)=false:=by simp
    have w5:decide ((NC:Int)<(e0:Int)+(n2:Int))=false:=by simp;omega
    have HWR:=Zh (show IntKind.i64.wrap ((e0:Int)+(n2:Int))=(e0:Int)+(n2:Int) from IntWalk.i64_in _ (by omega))
    have hwr:=HWR.out;have hct:=HCT.out;have HN2:=Zh hn2;clear hfr he0 hn0 hn2 hlen2 hbd hcx
    go_wp2_with fail
    with_reducible refine HAT.out.mono ?_
    rintro r w8 ⟨rfl,hb8⟩;have HX8:=Zh (HX7.out.trans (Nxw.below hb8 (Nat.lt_of_lt_of_le HMV.out.lt HB7.out.size)));have HB8:=Zh (Zb HB7.out hb8);have HC8:=Zh (HC6.out.below HB8.out HC6.out.lt);have HSX:=Zh (show ∀ V,Below w8.heap.size w8 V→V.cell? ⟨qb,2,none⟩=some (.slice CA NC cC)∧V.cell? ⟨w.heap.size,1,none⟩=some (.slice A2 n2 c2) from fun V hV=>⟨Zc hV (Zn _) (HQ.out w8 HX8.out).q2,Zc hV (Zn _) (Zq HC8.out)⟩)
    clear hb8 q1
    go_wp2_with fail
    refine wp_region_held_drew (S:=fun V=>Below w8.heap.size w8 V) (by kernel_rfl) (Zr _ _).drew (fun _=>?_);refine tz 0 106 ?_;refine tz 1 107 ?_;refine tz 2 108 ?_;refine tz 3 109 ?_;refine tz 4 110 ?_;refine tz 5 111 ?_;refine tz 6 112 ?_;refine tz 7 113 ?_;refine tz 8 114 ?_;refine tz 9 115 ?_;refine tz 10 116 ?_;refine tz 11 117 ?_;refine tz 12 118 ?_;refine tz 13 119 ?_;refine tz 14 120 ?_;refine tz 15 121 ?_;refine tz 16 122 ?_;refine tz 17 123 ?_;refine tz 18 124 ?_;refine Zd ?_
    go_wp2_with fail
    refine wp_region_held_drew (S:=fun V=>Below w8.heap.size w8 V) (by kernel_rfl) (Zr _ _).drew.drew (fun _=>?_);refine tz 0 125 ?_;refine tz 1 126 ?_;refine tz 2 127 ?_;refine tz 3 128 ?_;refine tz 4 129 ?_;refine tz 5 130 ?_;refine tz 6 131 ?_;refine tz 7 132 ?_;refine tz 8 133 ?_;refine tz 9 134 ?_;refine tz 10 135 ?_;refine tz 11 136 ?_;refine tz 12 137 ?_;refine tz 13 6 ?_;refine tz 14 7 ?_;refine Zd ?_;obtain ⟨v9,hv9⟩:∃ V,V=w8.drew.drew:=⟨_,rfl⟩;rw [←hv9];have HB9:=Zh (show Below w9.heap.size w9 v9 by rw [hv9];exact HB8.out.drew.drew)
    clear hv9
    go_wp2_with fail
    refine bodyPost_ret (v:=.tuple #[.slice A2 n2 c2,.slice (CA.map (·.add e0)) n2 (cC-e0)]) (by simp [results,results124,go_sem]) rfl ?_;have hcl:=HCL.out.sub e0 n2 HBD.out.1;rw [HN2.out] at hcl;refine ⟨A2,_,n2,c2,_,(n+1),x.2,_,(fun p q=>if p=J∧q=c then some (.agg #[.slice A1 n1 c1,.slice A2 n2 c2]) else f p q),rfl,HNX2.out,HR2.out.le (G2.more HB9.out),?_,HMV.out.below HB9.out,HNN.out,HMCV.out.le (G2.more HB9.out),HX6.out.trans (Nxw.below HB9.out HMV.out.lt),HBD.out.2.2⟩;rw [HN2.out];exact hcl.le (HG2.out v9 (HX6.out.trans (Nxw.below HB9.out HMV.out.lt)))
end Go.Proofs.YteaoiabikjnkeaaGreatDoor
