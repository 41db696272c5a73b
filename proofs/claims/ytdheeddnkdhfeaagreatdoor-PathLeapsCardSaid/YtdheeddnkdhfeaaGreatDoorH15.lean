/- Parts of the proof: AsC, AsN, AsO, AsS, Ye, AsT, AsU, Yi. -/
import Derived.Test.YtdheeddnkdhfeaaGreatDoorH14
namespace Go.Proofs.YtdheeddnkdhfeaaGreatDoor
open Go.RowKit Go.Proofs.Tryz
attribute [local go_sem ↓] Go.wp_at_zero Go.wp_at_succ
theorem Qqx (w:World)(x:Int)(h0:1152921504606846976<x) :
 Calls prog 131 #[.int .i64 x] w fun e w'=>e=.returned (.int .i64 1152921504606846976)∧w=w':=by
 have e1:decide (x<0)=false:=by simp;omega
 have e2:decide (1152921504606846976<x)=true:=by simp;omega
 go_enter func131,ntmps131
 exact Kcq
theorem Qel (w:World)(x y:Int)(h0:0≤x∧x≤1152921504606846976)(h1:0≤y∧y≤1152921504606846976) :
 Calls prog 81 #[.int .i64 x,.int .i64 y] w fun e w'=>e=.returned (.int .i64 (Qcl x y))∧w=w':=by
 have HX:=Zh (Qdn w x h0.1 h0.2);have HY:=Zh (Qdn w y h1.1 h1.2)
 have HZ:=Zh (show Calls prog 131 #[.int .i64 (x+y)] w fun e w'=>e=.returned (.int .i64 (Qcl x y))∧w=w' by
  unfold Qcl
  split
  · exact Qqx w (x+y) (by omega)
  · exact Qdn w (x+y) (by omega) (by omega))
 have e1:IntKind.i64.wrap (x+y)=x+y:=IntWalk.i64_in _ (by omega);go_enter func81,ntmps81
 exact Kbh
theorem Qwh {x:Int}(h:x≤1152921504606846976):Qcl 0 x=x:=by unfold Qcl;split <;> omega
theorem Qqy (A:Option Addr)(c:Nat)(w:World)(x y z:Int) (h:RdI w A 3 [x,y,z]) (h0:0≤x∧x≤1152921504606846976) (h1:0≤y∧y≤1152921504606846976) (h2:0≤z∧z≤1152921504606846976) :
 Calls prog 106 #[.slice A 3 c] w fun e w'=>e=.returned (.int .i64 (Qcl (Qcl x y) z))∧w=w':=by
 obtain ⟨b,o,rfl,c0⟩:=h.2 0 x rfl;obtain ⟨b',o',e',c1⟩:=h.2 1 y rfl;cases e';obtain ⟨b',o',e',c2⟩:=h.2 2 z rfl;cases e';rw [Nat.add_zero] at c0;clear h;have HX:=Zh (show Calls prog 81 #[.int .i64 0,.int .i64 x] w fun e w'=>e=.returned (.int .i64 x)∧w=w' from by have:=Qel w 0 x (by omega) h0;rw [Qwh h0.2] at this;exact this);have HY:=Zh (Qel w x y h0 h1);have gb:=Qgj h0.1 h1.1;have HZ:=Zh (Qel w (Qcl x y) z ⟨gb.1,gb.2.1⟩ h2);obtain ⟨u,hu⟩:=Zx (Qcl x y);rw [←hu] at HY HZ ⊢;obtain ⟨v,hv⟩:=Zx (Qcl u z);rw [←hv] at HZ ⊢;clear hu hv gb;go_enter func106,ntmps106
 go_wp2_with fail
 go_loopw [3,8] (fun s i W=>W=w∧((s=.int .i64 0∧i=.int .i64 0)∨(s=.int .i64 x∧i=.int .i64 1)∨(s=.int .i64 u∧i=.int .i64 2)∨(s=.int .i64 v∧i=.int .i64 3))) (fun _ i _=>3-(intOf i).toNat)
 case atStart=>exact ⟨rfl,.inl ⟨rfl,rfl⟩⟩
 case round =>obtain ⟨rfl,⟨rfl,rfl⟩|⟨rfl,rfl⟩|⟨rfl,rfl⟩|⟨rfl,rfl⟩⟩:=hrel;{(go_wp2_with fail);(with_reducible refine HX.out.mono ?_);rintro e w' ⟨rfl,rfl⟩;(go_wp2_with fail);go_roundw;(case rel=>exact ⟨by trivial,.inr (.inl ⟨rfl,rfl⟩)⟩);case measure=>simp [intOf]};{(go_wp2_with fail);(with_reducible refine HY.out.mono ?_);rintro e w' ⟨rfl,rfl⟩;(go_wp2_with fail);go_roundw;(case rel=>exact ⟨by trivial,.inr (.inr (.inl ⟨rfl,rfl⟩))⟩);case measure=>simp [intOf]};{(go_wp2_with fail);(with_reducible refine HZ.out.mono ?_);rintro e w' ⟨rfl,rfl⟩;(go_wp2_with fail);go_roundw;(case rel=>exact ⟨by trivial,.inr (.inr (.inr ⟨rfl,rfl⟩))⟩);case measure=>simp [intOf]};{(go_wp2_with fail);exact Kat}
end Go.Proofs.YtdheeddnkdhfeaaGreatDoor
namespace Go.Proofs.YtdheeddnkdhfeaaGreatDoor
open Go.RowKit Go.Maps Go.WideMaps Go.Proofs.Tryz
attribute [local go_sem ↓] Go.wp_at_zero Go.wp_at_succ
theorem MpQ.at_ {W W':World}{b n:Nat}{f:Nat→Nat→Option Value}(h:MpQ W b n f) (e:W'.heap[b]?=W.heap[b]?):MpQ W' b n f:=by obtain ⟨D,⟨es,clock,h1,h2⟩,h3⟩:=h;exact ⟨D,⟨es,clock,e.trans h1,h2⟩,h3⟩
theorem Qks {w:World}{o:Oper}{a:Act}{K:Act→World→Prop}{Q:Exit→Act→World→Prop}{b n:Nat}{f:Nat→Nat→Option Value}(m x v:Operand)(hop:o.op=Op.mapUpdate 159 m x v)(i k:Nat)(u:Value) (hm:a.eval m=.map (some b)) (h:MpQ w b n f) (hn:n≤1000000000000000000) (hx:a.eval x=.agg #[.int .i64 i,.int .i64 k]) (hv:a.eval v=u) (hi:i≤1000000000000) (hk:k≤1000000000000)
 (hK:∀ w',MpQ w' b (n+1) (fun p q=>if p=i∧q=k then some u else f p q)→w.grownBy w' (some b)→K (a.put o.dst undef) w'):Oper.wp prog o a w K Q:=by
 obtain ⟨D,h1,h2,h3⟩:=h;obtain ⟨w',hrun,g1,g2⟩:=h1.update Qnv underlying159 (by unfold maxLen;omega) (Qte hi hk) (show RV u=some (.held u,[]) from rfl)
 have hf:=hK w' ⟨_,g1,h2.put _ _,fun p q hp hq=>by
  have hkl:WideAt.IsKeyLit (kq i k):=by simp [WideAt.IsKeyLit,kq]
  by_cases e:p=i∧q=k
  · obtain ⟨rfl,rfl⟩:=e
    simp only [and_self,if_pos];exact ⟨has_put_same h2 hkl _,fun v e z=>by cases e;exact atKey_put_same h2 hkl _ _⟩
  · simp only [if_neg e]
    exact ⟨(has_put_other (kq_ne hp hq hi hk e) _).trans (h3 p q hp hq).1,fun v e2 z=>(atKey_put_other (kq_ne hp hq hi hk e) _ _).trans ((h3 p q hp hq).2 v e2 z)⟩⟩ g2
 unfold Oper.wp;simp [execOp,hop,hm,hx,hv,hrun,Result.andThen];exact hf
def MpC (V:World)(G:Nat→Prop)(ar:List Tri) (ls:List (List Int)) (f:Nat→Nat→Option Value):Prop :=
 ∀ i k u,f i k=some u→∃ j l x A1 n1 c1 A2 n2 c2,i=j+1∧ls[j]?=some l∧(Qaf ar l)[k]?=some x∧u=.agg #[.slice A1 n1 c1,.slice A2 n2 c2]∧RdI (msk V G) A1 n1 x.1∧RdI (msk V G) A2 n2 x.2
theorem MpC.le {V V':World}{G G':Nat→Prop}{ar:List Tri} {ls:List (List Int)} {f:Nat→Nat→Option Value} (h:MpC V G ar ls f) (hl:Le (msk V G) (msk V' G')):MpC V' G' ar ls f:=fun i k u hu=>by obtain ⟨j,l,x,A1,n1,c1,A2,n2,c2,h1,h2,h3,h4,h5,h6⟩:=h i k u hu;exact ⟨j,l,x,A1,n1,c1,A2,n2,c2,h1,h2,h3,h4,h5.le hl,h6.le hl⟩
theorem MpC.put {V:World}{G:Nat→Prop}{ar:List Tri} {ls:List (List Int)} {f:Nat→Nat→Option Value} (h:MpC V G ar ls f) {j k:Nat} {l:List Int} {x:Qan} {A1 A2:Option Addr} {n1 n2 c1 c2:Nat} (hl:ls[j]?=some l) (hx:(Qaf ar l)[k]?=some x) (h1:RdI (msk V G) A1 n1 x.1) (h2:RdI (msk V G) A2 n2 x.2) :
 MpC V G ar ls (fun p q=>if p=j+1∧q=k then some (.agg #[.slice A1 n1 c1,.slice A2 n2 c2]) else f p q):=fun p q u hu=>by simp only at hu;by_cases e:p=j+1∧q=k;{rw [if_pos e] at hu;cases hu;obtain ⟨rfl,rfl⟩:=e;exact ⟨j,l,x,A1,n1,c1,A2,n2,c2,rfl,hl,hx,rfl,h1,h2⟩};{rw [if_neg e] at hu;exact h p q u hu}
structure Nxw (mb:Nat) (w w':World):Prop where
 kept:Qaz (fun b=>b≠mb) w w'
 size:w.heap.size≤w'.heap.size
 bel:∀ B,B≤mb→Below B w w'
theorem Nxw.below {mb:Nat}{w w':World}(h:Below w.heap.size w w')(hm:mb<w.heap.size):Nxw mb w w':=⟨Qaz.below h,h.size,fun B hB=>h.mono (by omega)⟩
theorem Nxw.grown {mb:Nat}{w w':World} (h:w.grownBy w' (some mb)) (hm:mb<w.heap.size):Nxw mb w w':=⟨Qaz.grown h (fun _ hb e=>hb (by injection e with e;exact e.symm)),h.size,fun B hB=>⟨h.os,h.tape,h.output,h.size,fun k hk=>h.block k (by omega) (fun e2=>by injection e2;omega)⟩⟩
theorem Nxw.trans {mb:Nat}{a b c:World}(h:Nxw mb a b)(k:Nxw mb b c):Nxw mb a c:=⟨h.kept.trans k.kept h.size,Yx h.size k.size,fun B hB=>(h.bel B hB).trans (k.bel B hB)⟩
def G2 (G:Nat→Prop)(w w':World):Nat→Prop:=fun b=>G b∨(w.heap.size≤b∧b<w'.heap.size)
theorem G2.le {G:Nat→Prop}{mb:Nat}{w w':World}(h:Nxw mb w w')(hG:¬G mb):Le (msk w G) (msk w' (G2 G w w')) :=
 (Qaz.msk (h.kept.mono (fun _ hb e=>hG (e▸hb)))).trans (Qbe (fun _ hb=>.inl hb))
theorem run_cutG {P:Program}(t e:TypeId) (ht:P.underlying t=some (.slice e)) (he:P.elem t=e) (hs:(P.info? e).map (·.size)=some 1) (A:Option Addr) (n c lo r:Nat) (hlo:lo+r≤c) (h0:0<r) (w:World) :
 (Instr.slice t (.slice A n c) (some (.int .i64 (lo:Int))) (some (.int .i64 ((lo:Int)+r))) none).run P w=.ok (.slice (A.map (·.add lo)) r (c-lo)) w:=by
 rw [run_slice_lh (P:=P) w t A n c (by rw [he];exact ht) .i64 .i64 (lo:Int) ((lo:Int)+r) (by omega) (by omega) (by omega),he];have e1:((lo:Int)).toNat=lo:=by omega
 have e2:((lo:Int)+r).toNat=lo+r:=by omega
 have e3:¬c=lo:=by omega
 rw [e1,e2]
 cases hi:P.info? e with
 | none=>rw [hi] at hs;cases hs
 | some i =>rw [hi] at hs;simp at hs;simp [sizeOf,typeInfo,hi,Result.andThen,hs,sliced,e3]
theorem Qjr (A:Option Addr)(n c lo r:Nat)(hlo:lo+r≤c)(h0:0<r)(W:World):(Instr.slice 36 (.slice A n c) (some (.int .i64 (lo:Int))) (some (.int .i64 ((lo:Int)+r))) none).run prog W=.ok (.slice (A.map (·.add lo)) r (c-lo)) W :=
 run_cutG 36 2 underlying36 (by kernel_rfl) (by kernel_rfl) A n c lo r hlo h0 W
theorem RdI.sub {w:World}{A:Option Addr}{n:Nat}{l:List Int}(h:RdI w A n l)(lo r:Nat)(hr:lo+r≤n):RdI w (A.map (·.add lo)) r ((l.drop lo).take r):=by
 refine ⟨by rw [Yw,List.length_drop,h.1];omega,fun i x hi=>?_⟩;have hir:i<r:=by have:=(Zs hi).1;rw [Yw] at this;omega
 rw [List.getElem?_take_of_lt hir,List.getElem?_drop] at hi;obtain ⟨b,o,rfl,hc⟩:=h.2 _ x hi;refine ⟨b,o+lo,?_,by rw [Nat.add_assoc];exact hc⟩;simp only [Option.map_some,Addr.add];split;{rename_i h0;rw [show lo=0 by omega];rfl};{rfl}
theorem Qtt {cs:List Int}{i n:Nat}{z:Int} (h:cs[i]?=some z) (hn:i<n) (hl:cs.length=n):(cs.take i ++List.replicate (n-i) 0).set i z=cs.take (i+1) ++List.replicate (n-(i+1)) 0:=by
 have hl2:(cs.take i).length=i:=by rw [Yw];omega
 rw [List.set_append_right _ _ (by rw [hl2];exact Zn _),hl2,Yy,Yf (by omega),(Zs h).2];obtain ⟨m,hm⟩:∃ m,n-i=m+1:=⟨n-i-1,by omega⟩;rw [hm,show n-(i+1)=m by omega];simp [List.replicate_succ]
end Go.Proofs.YtdheeddnkdhfeaaGreatDoor
namespace Go.Proofs.YtdheeddnkdhfeaaGreatDoor
open Go.RowKit Go.Proofs.Tryz
attribute [local go_sem ↓] Go.wp_at_zero Go.wp_at_succ
theorem Own.rdM {w:World}{B n c:Nat}{e:TypeId}{A:Option Addr}{l:List Int}{G:Nat→Prop} (h:Own w B e 1 A n c (Qag l)) (hG:∀ b,B≤b→b<w.heap.size→G b):RdI (msk w G) A n l:=by have hr:=h.rds.rdI;refine ⟨hr.1,fun i x hi=>?_⟩;obtain ⟨b,o,rfl,hc⟩:=hr.2 i x hi;have:=h.lt b rfl;exact ⟨b,o,rfl,Qbb.2 ⟨hG b this.1 this.2,hc⟩⟩
theorem Blk.rdM {w:World}{g:Nat}{t:TypeId}{l:List Int}{G:Nat→Prop} (h:Blk w g t (Qcf l)) (hG:G g):RdI (msk w G) (some ⟨g,0,none⟩) l.length l :=
 ⟨rfl,fun i x hi=>⟨g,0,rfl,by rw [Yz];exact Qbb.2 ⟨hG,h.cellI hi⟩⟩⟩
set_option maxHeartbeats 2000000 in
theorem next0_ok (w:World)(qb g o:Nat)(N:Qam) (ls:List (List Int)) (s t:Nat) (CA:Option Addr) (NC cC:Nat) (cl:List Int) (Q:Option Addr) (L cq mb bb na a:Nat) (x:Tri) (h:QR w qb g o N ls s t CA NC cC cl Q L cq mb bb na) (hok:Qap N) (hx:N.ar[a]?=some x) :
 Calls prog 104 #[.pointer (some ⟨qb,0,none⟩),.int .i64 0,.int .i64 a] w fun e w'=>∃ (O C:Option Addr) (nO cO cC':Nat),e=.returned (.tuple #[.slice O nO cO,.slice C nO cC']) ∧
  RdI (msk w' (fun b=>w.heap.size≤b∧b<w'.heap.size)) O nO (idx (·.1) N.ar x.2.1)∧RdI (msk w' (fun b=>w.heap.size≤b∧b<w'.heap.size)) C nO ((idx (·.1) N.ar x.2.1).map (fun b=>Qai N a b.toNat))∧nO≤16384∧Below w.heap.size w w':=by
 obtain ⟨u,v,e1,e2,hu,hv⟩:=Qda hok hx;obtain ⟨os,hos⟩:=Zx (idx (·.1) N.ar x.2.1);obtain ⟨no,hno⟩:=Zx os.length;have hnl:no≤16384:=by{exact Kcx};have HTO:=Zh (Qfj g a N x w h.gr hx);have HOU:=Zh (show Calls prog 153 #[.pointer (some ⟨g,0,none⟩),.int .i64 x.2.1] w fun e w'=>∃ A n c,e=.returned (.slice A n c)∧Own w' w.heap.size 3 1 A n c (Qag os)∧Below w.heap.size w w' by rw [hos,e2];exact Qnk g v N w h.gr hv);have HTN:=Zh (fun V (hV:Below w.heap.size w V) (b:Nat) (y:Tri) (hy:N.ar[b]?=some y)=>Qnl g a b N x y V (h.gr.below hV) hx hy)
 have HCL:=Zh (show ∀ i b,os[i]?=some b→∃ (n:Nat) (y:Tri),b=(n:Int)∧N.ar[n]?=some y from fun i b hb=>by
  rw [hos] at hb;obtain ⟨n,y,rfl,hy,_⟩:=Qdz.1 (Zm hb);exact ⟨n,y,rfl,hy⟩)
 rw [←hos];obtain ⟨cs,hcs⟩:=Zx (os.map (fun b=>Qai N a b.toNat));rw [←hcs];have HCS:=Zh (show ∀ i n,os[i]?=some ((n:Nat):Int)→cs[i]?=some (Qai N a n) from fun i n hb=>by rw [hcs,Yt,hb];simp);have HLC:=Zh (show cs.length=no by rw [hcs,List.length_map,hno]);have HNO:=Zh hno;have HQ:=Zh (show ∀ V,Below w.heap.size w V→V.cell? ⟨qb,0,none⟩=some (.pointer (some ⟨g,0,none⟩)) from fun V hV=>(h.below hV).q0);have q0:=h.q0;have hmk:=Qeg no (by omega);clear h hok hx hos hno hcs e1 e2 hu hv;go_enter func104,ntmps104
 go_wp2_with fail
 with_reducible refine HTO.out.mono ?_
 rintro r w' ⟨rfl,rfl⟩;go_wp2_with fail
 with_reducible refine HOU.out.mono ?_
 rintro r w1 ⟨O,nO,cO,rfl,hO,hb1⟩;obtain rfl:no=nO:=by rw [HNO.out];exact hO.rds.rdI.1
 have HO:=Zh hO;have HB1:=Zh hb1;clear hO hb1 q0;go_wp2_with fail
 (refine Qaj ?_;intro w2 hw2);have hb2:Below w1.heap.size w1 w2:=by rw [hw2];exact Qah
 have hC2:Blk w2 w1.heap.size 2 (Qcf (cs.take 0 ++List.replicate (no-0) 0)):=by rw [hw2,List.take_zero,List.nil_append,Nat.sub_zero,←Qcd];exact Qbi
 have HC2:=Zh hC2;have HB2:=Zh hb2;clear hw2 hC2 hb2;go_loopw [37] (fun uk V=>∃ kk:Nat,kk≤no∧uk=.int .i64 kk∧Below w1.heap.size w1 V∧Blk V w1.heap.size 2 (Qcf (cs.take kk ++List.replicate (no-kk) 0))) (fun uk _=>no-(intOf uk).toNat)
 case atStart=>exact ⟨0,Nat.zero_le _,rfl,HB2.out,HC2.out⟩
 case round =>
  clear HC2 HB2;obtain ⟨kk,hkk,rfl,hb,hC⟩:=hrel;have HB:=Zh hb;have HC:=Zh hC;have hlt1:=hC.lt;by_cases hlt:kk<no
  rotate_left;{(obtain rfl:kk=no:=by omega);(have j2:¬((kk:Int)<kk):=by omega);clear hb hC;(go_wp2_with fail);refine bodyPost_ret (v:=.tuple #[.slice O kk cO,.slice (some ⟨w1.heap.size,0,none⟩) kk kk]) (by simp [results,results104,go_sem]) rfl ?_;refine ⟨O,_,kk,⟨cO,kk,rfl⟩,(HO.out.below HB.out).rdM (fun _ h1 h2=>⟨h1,h2⟩),?_,hnl,Zb HB1.out HB.out⟩;have hC:=HC.out;rw [Yy,List.replicate_zero,List.append_nil,Ye (by rw [HLC.out];exact Zn _)] at hC;have:=hC.rdM (G:=fun b=>w.heap.size≤b∧b<wr.heap.size) ⟨HB1.out.size,hlt1⟩;rwa [HLC.out] at this};{(have j2:(kk:Int)<no:=by omega);exact Kaj}
def NxtR (w:World)(G:Nat→Prop)(mb n:Nat)(N:Qam) (ls:List (List Int)) (av:List Int) (a:Nat) (r:Ending) (w':World):Prop :=
 ∃ (O C:Option Addr) (nO cO cC n':Nat) (os cs:List Int) (f':Nat→Nat→Option Value),r=.returned (.tuple #[.slice O nO cO,.slice C nO cC])∧NxtP N ls av a os cs∧RdI (msk w' (G2 G w w')) O nO os∧RdI (msk w' (G2 G w w')) C nO cs ∧
  MpQ w' mb n' f'∧n'≤n+1∧MpC w' (G2 G w w') N.ar ls f'∧Nxw mb w w'∧nO≤16384
theorem G2.more {G:Nat→Prop}{w V V':World}(h:Below V.heap.size V V'):Le (msk V (G2 G w V)) (msk V' (G2 G w V')) :=
 (Qaz.msk (Qaz.below h)).trans (Qbe (fun _ hb=>hb.imp id (fun h1=>⟨h1.1,Yu h1.2 h.size⟩)))
set_option maxRecDepth 20000 in
set_option maxHeartbeats 2000000 in
theorem next1_ok (w:World)(qb g o:Nat)(N:Qam) (ls:List (List Int)) (s t:Nat) (CA:Option Addr) (NC cC:Nat) (cl:List Int) (Q:Option Addr) (L cq mb bb na a J j:Nat) (y:Tri) (av:List Int) (G:Nat→Prop) (n:Nat) (f:Nat→Nat→Option Value) (h:QR (msk w G) qb g o N ls s t CA NC cC cl Q L cq mb bb na) (hGm:¬G mb) 
 (hm:MpQ w mb n f) (hn:n≤1000000) (hmc:MpC w G N.ar ls f) (hok:Qap N) (hP:Qat N.vs.length ls) (hA:Qct N ls cl) (hcc:NC≤cC∧cC≤9223372036854775807) (hSm:Qbw (Qae N.ar ls)≤1000000000) (hy:N.ar[a]?=some y) (hg:Qvz N ls av a) (hJ:Qhh ls (toV N a) av=J) (hj:J=j+1) :
 Calls prog 104 #[.pointer (some ⟨qb,0,none⟩),.int .i64 J,.int .i64 a] w (NxtR w G mb n N ls av a):=by
 obtain ⟨l,hl,_⟩:=Qex (hJ.trans hj);have hlv:=hP.lvl l (Zm hl);have hgd:=hg j l y (hJ.trans hj) hl hy;obtain ⟨_,v,_,e2,_,hv⟩:=Qda hok hy;obtain ⟨c,hc,hcm,hcv⟩:=Qcm hlv hv;rw [←e2] at hc;obtain ⟨x,hx⟩:∃ x,(Qaf N.ar l)[c]?=some x:=⟨_,Zg (by rw [Qaq];exact hcm)⟩;obtain ⟨i,hi⟩:=Yr ((Qcw hx).2 ⟨y,hy,by rw [←hc];exact hgd,hc⟩);have HNX:=Zh (Qyo hok hA (hJ.trans hj) hl hy hgd hc hx hi);have hL6:=hP.l6;have hlen:=hlv.len;have hvs:=hok.lv;have hil:=(Zs hi).1;have hll:=(Zs hl).1;have HQ:=Zh (show ∀ V,Nxw mb w V→QR V qb g o N ls s t CA NC cC cl Q L cq mb bb na from fun V hV=>h.le ((G2.le hV hGm).trans (Qau _ _)));have HG2:=Zh (show ∀ V,Nxw mb w V→Le (msk w G) (msk V (G2 G w V)) from fun V hV=>G2.le hV hGm);have HMQ:=Zh hm;have HMC:=Zh hmc;have HCL:=Zh h.costs;have HCC:=Zh hcc;have HTO:=Zh (Qfj g a N y w (h.gr.le (Qau _ _)) hy);rw [e2] at HTO;have HGT:=Zh (fun V (hV:Nxw mb w V)=>Qgm o j c N.ar ls l x V (h.ov.le ((G2.le hV hGm).trans (Qau _ _))) hl (by omega) hx (by have:=hok.la;omega));have HFR:=Zh (fun V (hV:Nxw mb w V)=>Qre o j c i N ls l x V (h.ov.le ((G2.le hV hGm).trans (Qau _ _))) hl hx hil (by omega) hSm);have HSO:=Zh (Qdu hx);have HPI:=Zh (Qef HSO.out hi);have hgl:=Qbl hx;have hla:=hok.la;have HGL:=Zh (show x.1.length≤16384∧x.2.length≤16384 by omega);have hq:=(h.le (Qau _ _));have q0:=hq.q0;have q5:=hq.q5;have q6:=hq.q6;obtain ⟨qb2,qo2,A0,n0,c0,l0,rfl,hl0,k0,k1,_,_⟩:=hq.part.at_ (i:=j) (by have:=hq.part.1;omega);rw [hl] at hl0;cases hl0;obtain ⟨kb,ko,z,rfl,hz,k2⟩:=k1.at_ (i:=v) (by rw [←k1.1];omega);rw [hcv] at hz;cases hz;have hLL:L=ls.length:=hq.part.1.symm;have hn0:n0=N.vs.length:=by rw [←k1.1];exact hlen
 have m1:(J:Int)-1=j:=by omega
 have m2:0≤(j:Int):=by omega
 have m3:(j:Int)<L:=by omega
 have m4:0≤(v:Int):=by omega
 have m5:(v:Int)<n0:=by omega
 have m6:((J:Int) == 0)=false:=by simp;omega
 have m7:(j:Int)+1=J:=by omega
 simp only [m7] at HGT HFR;have wl:IntKind.i64.wrap (j:Int)=(j:Int):=IntWalk.i64_in _ (by omega);have HX0:=Zh (show Nxw mb w w from Nxw.below (Zr _ _) hm.lt);have HJ:=Zh hj;have HJL:=Zh (show J≤1000000000000∧c≤1000000000000 by have:=hlv.hi _ (Zm hcv);omega);have HL:=Zh hl;have HX:=Zh hx;have HI:=Zh hi;clear h hGm hmc hok hP hA hSm hy hg hJ hl hlv hgd hc hcm hcv hx hi hq k1 e2 hgl hla hlen hvs hj hcc hm hLL hn0 m7 hil hll hL6;go_enter func104,ntmps104
 go_wp2_with fail
 with_reducible refine HTO.out.mono ?_
 rintro r w' ⟨rfl,rfl⟩
 cases hf:f J c with
 | some u =>
  obtain ⟨j',l',x',A1,n1,c1,A2,n2,c2,ej,hl',hx',rfl,hr1,hr2⟩:=HMC.out J c u hf;obtain rfl:j=j':=by have:=HJ.out;omega
  rw [HL.out] at hl';cases hl';rw [HX.out] at hx';cases hx';have HR1:=Zh hr1;have HR2:=Zh hr2;clear ej hr1 hr2;go_wp2_with (at_lookup;with_reducible refine Qog rfl _ _ rfl J c rfl HMQ.out rfl HJL.out.1 HJL.out.2 ?_)
  (refine Qac ?_;intro w6 hw6);have hb6:Below w.heap.size w w6:=by rw [hw6];exact Qah
  have HC6:=Zh (show Blk w6 w.heap.size 135 #[.slice A1 n1 c1,.slice A2 n2 c2] by rw [hw6];exact Blk.new _ _ _);have HX6:=Zh (Nxw.below hb6 HMQ.out.lt);have HMV:=Zh (HMQ.out.below hb6);have HNN:=Zh (show n≤n+1 by omega);have HMCV:=Zh (HMC.out.le (HG2.out w6 HX6.out));have HR1:=Zh (HR1.out.le (HG2.out w6 HX6.out));have HR2:=Zh (HR2.out.le (HG2.out w6 HX6.out));clear hw6 hb6 hf;have hq6:=HQ.out w6 HX6.out;have q1:=hq6.q1;have z0:w6.cell? ⟨w.heap.size,0,none⟩=some (.slice A1 n1 c1):=Zq HC6.out;have HPL:=Zh (Qdt A1 n1 c1 x.1 (a:Int) w6 (HR1.out.le (Qau _ _)) HSO.out (by rw [←HR1.out.1];have:=HGL.out.1;omega));rw [HPI.out] at HPL;clear hq6;with_reducible refine HPL.out.mono ?_
  rintro r w7 ⟨rfl,hb7⟩;have HX7:=Zh (HX6.out.trans (Nxw.below hb7 HMV.out.lt));have HB7:=Zh hb7;have q1:=(HQ.out w7 HX7.out).q1;have HAT:=Zh (HFR.out w7 HX7.out);have w0:¬((i:Int)<0):=by omega
  clear z0 hb7;by_cases hn0:x.2.length=0;{(have hfr:Qje (Qae N.ar ls) (Qaf N.ar l) j c x i = -1:=by unfold Qje;rw [if_pos hn0]);rw [hfr] at HAT;have HN0:=Zh hn0;clear hfr hn0;(go_wp2_with fail);(with_reducible refine HAT.out.mono ?_);rintro r w8 ⟨rfl,hb8⟩;have HB8:=Zh (Zb HB7.out hb8);clear hb8 q1;(go_wp2_with fail);refine wp_region_held_drew (S:=fun V=>V=w8.drew) (by kernel_rfl) rfl (fun _=>?_);refine tzd 0 106 ?_;refine tzb 4 110 ?_;refine tz 6 112 ?_;refine tw 7 113 ?_;refine tw 8 114 ?_;refine tw 9 115 ?_;refine tw 10 116 ?_;refine tw 11 117 ?_;refine tw 12 118 ?_;refine tw 13 119 ?_;refine tw 14 120 ?_;refine tw 15 121 ?_;refine tw 16 122 ?_;refine tw 17 123 ?_;refine tz 18 124 ?_;refine Zd ?_;obtain ⟨v9,hv9⟩:∃ V,V=w8.drew:=⟨_,rfl⟩;rw [←hv9];have HB9:=Zh (show Below w6.heap.size w6 v9 by rw [hv9];exact HB8.out.drew);clear hv9;(go_wp2_with fail);refine bodyPost_ret (v:=.tuple #[.slice none 0 0,.slice none 0 0]) (by simp [results,results104,go_sem]) rfl ?_;have hx2:x.2=[]:=List.eq_nil_of_length_eq_zero HN0.out;have hnx:=HNX.out;rw [hx2] at hnx;exact ⟨none,none,0,0,0,n,[],_,f,rfl,hnx,⟨rfl,fun i x h=>by simp at h⟩,⟨by simp,fun i x h=>by simp at h⟩,HMV.out.below HB9.out,HNN.out,HMCV.out.le (G2.more HB9.out),HX6.out.trans (Nxw.below HB9.out HMV.out.lt),by omega⟩};{obtain ⟨e0,he0⟩:=Zx (Qfi (Qae N.ar ls) (Qaf N.ar l) j c x i 0);(have hfr:Qje (Qae N.ar ls) (Qaf N.ar l) j c x i=(e0:Int):=by unfold Qje;rw [if_neg hn0,he0]);(rw [hfr] at HAT;have HNX2:=Zh HNX.out;rw [←he0] at HNX2;have hn2:n2=x.2.length:=HR2.out.1.symm;have hlen2:=HNX2.out.len;rw [Yw,List.length_drop,HCL.out.1] at hlen2;have hbd:e0+n2≤NC∧0<n2∧n2≤16384:=by have:=HGL.out;omega);(have hcx:=HCC.out;have HCT:=Zh (Qjr CA NC cC e0 n2 (by omega) hbd.2.1);have HBD:=Zh hbd;have w1:¬((e0:Int)<0):=by omega);(have w2:¬((NC:Int)<e0+n2):=by omega);(have w3:decide ((i:Int)<0)=false:=by simp);(have w4:decide ((e0:Int)<0)=false:=by simp);(have w5:decide ((NC:Int)<e0+n2)=false:=by simp;omega);have HWR:=Zh (show IntKind.i64.wrap ((e0:Int)+n2)=(e0:Int)+(n2:Int) from IntWalk.i64_in _ (by omega));have hwr:=HWR.out;have hct:=HCT.out;have HN2:=Zh hn2;clear hfr he0 hn0 hn2 hlen2 hbd hcx;(go_wp2_with fail);(with_reducible refine HAT.out.mono ?_);rintro r w8 ⟨rfl,hb8⟩;have HX8:=Zh (HX7.out.trans (Nxw.below hb8 (Yu HMV.out.lt HB7.out.size)));have HB8:=Zh (Zb HB7.out hb8);have HC8:=Zh (HC6.out.below HB8.out HC6.out.lt);have HSX:=Zh (show ∀ V,Below w8.heap.size w8 V→V.cell? ⟨qb,2,none⟩=some (.slice CA NC cC)∧V.cell? ⟨w.heap.size,1,none⟩=some (.slice A2 n2 c2) from fun V hV=>⟨Zc hV (Zn _) (HQ.out w8 HX8.out).q2,Zc hV (Zn _) (Zq HC8.out)⟩);clear hb8 q1;(go_wp2_with fail);refine wp_region_held_drew (S:=fun V=>Below w8.heap.size w8 V) (by kernel_rfl) (Zr _ _).drew (fun _=>?_);refine tzd 0 106 ?_;refine tzd 4 110 ?_;refine tzd 8 114 ?_;refine tzd 12 118 ?_;refine tzb 16 122 ?_;refine tz 18 124 ?_;refine Zd ?_;(go_wp2_with fail);refine wp_region_held_drew (S:=fun V=>Below w8.heap.size w8 V) (by kernel_rfl) (Zr _ _).drew.drew (fun _=>?_);refine tzd 0 125 ?_;refine tzd 4 129 ?_;refine tzd 8 133 ?_;refine tz 12 137 ?_;refine tzb 13 6 ?_;refine Zd ?_;obtain ⟨v9,hv9⟩:∃ V,V=w8.drew.drew:=⟨_,rfl⟩;rw [←hv9];have HB9:=Zh (show Below w6.heap.size w6 v9 by rw [hv9];exact HB8.out.drew.drew);clear hv9;(go_wp2_with fail);refine bodyPost_ret (v:=.tuple #[.slice A2 n2 c2,.slice (CA.map (·.add e0)) n2 (cC-e0)]) (by simp [results,results104,go_sem]) rfl ?_;have hcl:=HCL.out.sub e0 n2 HBD.out.1;rw [HN2.out] at hcl;refine ⟨A2,_,n2,c2,_,n,x.2,_,f,rfl,HNX2.out,HR2.out.le (G2.more HB9.out),?_,HMV.out.below HB9.out,HNN.out,HMCV.out.le (G2.more HB9.out),HX6.out.trans (Nxw.below HB9.out HMV.out.lt),HBD.out.2.2⟩;rw [HN2.out];exact hcl.le (HG2.out v9 (HX6.out.trans (Nxw.below HB9.out HMV.out.lt)))}
 | none =>
  have q1:=(HQ.out w HX0.out).q1;have hqb:qb<w.heap.size:=Qak q1
  go_wp2_with (at_lookup;with_reducible refine Qog rfl _ _ rfl J c rfl HMQ.out rfl HJL.out.1 HJL.out.2 ?_)
  (refine Qac ?_;intro w6 hw6);have hb6:Below w.heap.size w w6:=by rw [hw6];exact Qah
  have hC6:Blk w6 w.heap.size 135 #[.slice none 0 0,.slice none 0 0]:=by rw [hw6];exact Blk.new _ _ _
  have HX6:=Zh (Nxw.below hb6 HMQ.out.lt);clear hw6 hf q1;with_reducible refine (HGT.out w6 HX6.out).mono ?_
  rintro r w7 ⟨A1,n1,c1,A2,n2,c2,rfl,ho1,ho2,hb7⟩;have hC7:=hC6.below hb7 hC6.lt;obtain ⟨z0,z1,f0,f1⟩:=hC7.two;have HO1:=Zh ((ho1.far (Qad w7 w.heap.size 0 (.slice A1 n1 c1)) (.inr (ho1.ne hC6.lt))).far (Qad _ w.heap.size 1 (.slice A2 n2 c2)) (.inr (ho1.ne hC6.lt)));have HO2:=Zh ((ho2.far (Qad w7 w.heap.size 0 (.slice A1 n1 c1)) (.inr (ho2.ne hC6.lt))).far (Qad _ w.heap.size 1 (.slice A2 n2 c2)) (.inr (ho2.ne hC6.lt)));have HB7:=Zh (Zi (o:=1) (u:=.slice A2 n2 c2) (Zi (o:=0) (u:=.slice A1 n1 c1) (Zb hb6 hb7) (Zn _)) (Zn _));have HC7:=Zh ((hC7.set_ 0 (.slice A1 n1 c1)).set_ 1 (.slice A2 n2 c2));have HZ6:=Zh (show w.heap.size≤w6.heap.size from hb6.size);clear ho1 ho2 hC6 hC7 hb6 hb7;go_wp2_with fail
  (refine Qaj ?_;intro w8 hw8);have hb8:Below w.heap.size w w8:=by rw [hw8];exact HB7.out
  have HC8:=Zh (show Blk w8 w.heap.size 135 #[.slice A1 n1 c1,.slice A2 n2 c2] by rw [hw8];exact HC7.out);have HO1:=Zh (show Own w8 w6.heap.size 3 1 A1 n1 c1 (Qag x.1) by rw [hw8];exact HO1.out);have HO2:=Zh (show Own w8 w6.heap.size 3 1 A2 n2 c2 (Qag x.2) by rw [hw8];exact HO2.out);have HB8:=Zh hb8;have HX8:=Zh (Nxw.below hb8 HMQ.out.lt);clear hw8 hb8 HB7 HC7;have x6:=(HQ.out w8 HX8.out).q6;have z0:w8.cell? ⟨w.heap.size,0,none⟩=some (.slice A1 n1 c1):=Zq HC8.out;have z1:w8.cell? ⟨w.heap.size,1,none⟩=some (.slice A2 n2 c2):=Zq HC8.out;refine Qbj 8 (S:=fun V=>V.cell? ⟨qb,6,none⟩=some (.map (some mb))∧V.cell? ⟨w.heap.size,0,none⟩=some (.slice A1 n1 c1)∧V.cell? ⟨w.heap.size,1,none⟩=some (.slice A2 n2 c2)) (by kernel_rfl) ⟨x6,z0,z1⟩ (fun _=>?_);refine tkK 0 86 (h:=⟨_,tv,?_⟩);simp only [pE,List.set];refine tkK 1 87 (h:=⟨_,tv,?_⟩);simp only [pE,List.set];refine tkK 2 88 (h:=⟨_,tv,?_⟩);simp only [pE,List.set];refine tkK 3 89 (h:=⟨_,tv,?_⟩);simp only [pE,List.set];refine tkK 4 90 (h:=⟨_,tv,?_⟩);simp only [pE,List.set];refine tkK 5 91 (h:=⟨_,tv,?_⟩);simp only [pE,List.set];refine tkK 6 92 (h:=⟨_,tv,?_⟩);simp only [pE,List.set];refine tkK 7 93 (h:=⟨_,tv,?_⟩);simp only [pE,List.set];have hmq8:MpQ w8.drew mb n f:=(HMQ.out.below HB8.out).at_ rfl;refine Qbt (k:=8) (by kernel_rfl) rfl (fun K hK=>?_);refine (if_pos (by rfl)).mpr ?_;refine Qks _ _ _ rfl J c _ rfl hmq8 (by omega) rfl rfl HJL.out.1 HJL.out.2 (fun w9 hm9 hg9=>?_);refine hK.out _ _ ?_;clear hK K;refine Qbp (by kernel_rfl) ?_ _;clear x6 z0 z1 hmq8;have hX8:Nxw mb w w8.drew:=Nxw.below HB8.out.drew HMQ.out.lt;have HX9:=Zh (hX8.trans (Nxw.grown hg9 (Yu HMQ.out.lt HB8.out.size)));have hC8:Blk w8.drew w.heap.size 135 #[.slice A1 n1 c1,.slice A2 n2 c2]:=HC8.out;have HC9:=Zh (hC8.grown hg9 (fun e=>by have:=HMQ.out.lt;cases e;omega));have ho1:Own w8.drew w6.heap.size 3 1 A1 n1 c1 (Qag x.1):=HO1.out;have ho2:Own w8.drew w6.heap.size 3 1 A2 n2 c2 (Qag x.2):=HO2.out;have hmb6:mb<w6.heap.size:=Yu HMQ.out.lt HZ6.out
  have HR1:=Zh (show RdI (msk w9 (G2 G w w9)) A1 n1 x.1 from (ho1.far hg9 (.inr (ho1.ne hmb6))).rdM (fun b h1 h2=>.inr ⟨Yx HZ6.out h1,h2⟩));have HR2:=Zh (show RdI (msk w9 (G2 G w w9)) A2 n2 x.2 from (ho2.far hg9 (.inr (ho2.ne hmb6))).rdM (fun b h1 h2=>.inr ⟨Yx HZ6.out h1,h2⟩));have HMV:=Zh hm9;have HNN:=Zh (show n+1≤n+1 from Zn _);have hput:=(HMC.out.le (HG2.out w9 HX9.out)).put (c1:=c1) (c2:=c2) HL.out HX.out HR1.out HR2.out;rw [←HJ.out] at hput;have HMCV:=Zh hput;clear hput ho1 ho2 hmb6 hC8 hX8 hg9 hm9 HX8 HC8 HO1 HO2 HB8 HX6;have z0:w9.cell? ⟨w.heap.size,0,none⟩=some (.slice A1 n1 c1):=Zq HC9.out;have HX6:=HX9;have HC6:=HC9;clear HX9 HC9;go_wp2_with fail
  clear z0;have hq6:=HQ.out w9 HX6.out;have q1:=hq6.q1;have z0:w9.cell? ⟨w.heap.size,0,none⟩=some (.slice A1 n1 c1):=Zq HC6.out;have HPL:=Zh (Qdt A1 n1 c1 x.1 (a:Int) w9 (HR1.out.le (Qau _ _)) HSO.out (by rw [←HR1.out.1];have:=HGL.out.1;omega));rw [HPI.out] at HPL;clear hq6;with_reducible refine HPL.out.mono ?_
  rintro r w7 ⟨rfl,hb7⟩;have HX7:=Zh (HX6.out.trans (Nxw.below hb7 HMV.out.lt));have HB7:=Zh hb7;have q1:=(HQ.out w7 HX7.out).q1;have HAT:=Zh (HFR.out w7 HX7.out);have w0:¬((i:Int)<0):=by omega
  clear z0 hb7;by_cases hn0:x.2.length=0;{(have hfr:Qje (Qae N.ar ls) (Qaf N.ar l) j c x i = -1:=by unfold Qje;rw [if_pos hn0]);rw [hfr] at HAT;have HN0:=Zh hn0;clear hfr hn0;(go_wp2_with fail);(with_reducible refine HAT.out.mono ?_);rintro r w8 ⟨rfl,hb8⟩;have HB8:=Zh (Zb HB7.out hb8);clear hb8 q1;(go_wp2_with fail);refine wp_region_held_drew (S:=fun V=>V=w8.drew) (by kernel_rfl) rfl (fun _=>?_);refine tzd 0 106 ?_;refine tzb 4 110 ?_;refine tz 6 112 ?_;refine tw 7 113 ?_;refine tw 8 114 ?_;refine tw 9 115 ?_;refine tw 10 116 ?_;refine tw 11 117 ?_;refine tw 12 118 ?_;refine tw 13 119 ?_;refine tw 14 120 ?_;refine tw 15 121 ?_;refine tw 16 122 ?_;refine tw 17 123 ?_;refine tz 18 124 ?_;refine Zd ?_;obtain ⟨v9,hv9⟩:∃ V,V=w8.drew:=⟨_,rfl⟩;rw [←hv9];have HB9:=Zh (show Below w9.heap.size w9 v9 by rw [hv9];exact HB8.out.drew);clear hv9;(go_wp2_with fail);refine bodyPost_ret (v:=.tuple #[.slice none 0 0,.slice none 0 0]) (by simp [results,results104,go_sem]) rfl ?_;have hx2:x.2=[]:=List.eq_nil_of_length_eq_zero HN0.out;have hnx:=HNX.out;rw [hx2] at hnx;exact ⟨none,none,0,0,0,(n+1),[],_,(fun p q=>if p=J∧q=c then some (.agg #[.slice A1 n1 c1,.slice A2 n2 c2]) else f p q),rfl,hnx,⟨rfl,fun i x h=>by simp at h⟩,⟨by simp,fun i x h=>by simp at h⟩,HMV.out.below HB9.out,HNN.out,HMCV.out.le (G2.more HB9.out),HX6.out.trans (Nxw.below HB9.out HMV.out.lt),by omega⟩};{obtain ⟨e0,he0⟩:=Zx (Qfi (Qae N.ar ls) (Qaf N.ar l) j c x i 0);(have hfr:Qje (Qae N.ar ls) (Qaf N.ar l) j c x i=(e0:Int):=by unfold Qje;rw [if_neg hn0,he0]);(rw [hfr] at HAT;have HNX2:=Zh HNX.out;rw [←he0] at HNX2;have hn2:n2=x.2.length:=HR2.out.1.symm;have hlen2:=HNX2.out.len;rw [Yw,List.length_drop,HCL.out.1] at hlen2;have hbd:e0+n2≤NC∧0<n2∧n2≤16384:=by have:=HGL.out;omega);(have hcx:=HCC.out;have HCT:=Zh (Qjr CA NC cC e0 n2 (by omega) hbd.2.1);have HBD:=Zh hbd;have w1:¬((e0:Int)<0):=by omega);(have w2:¬((NC:Int)<e0+n2):=by omega);(have w3:decide ((i:Int)<0)=false:=by simp);(have w4:decide ((e0:Int)<0)=false:=by simp);(have w5:decide ((NC:Int)<e0+n2)=false:=by simp;omega);have HWR:=Zh (show IntKind.i64.wrap ((e0:Int)+n2)=(e0:Int)+(n2:Int) from IntWalk.i64_in _ (by omega));have hwr:=HWR.out;have hct:=HCT.out;have HN2:=Zh hn2;clear hfr he0 hn0 hn2 hlen2 hbd hcx;(go_wp2_with fail);(with_reducible refine HAT.out.mono ?_);rintro r w8 ⟨rfl,hb8⟩;have HX8:=Zh (HX7.out.trans (Nxw.below hb8 (Yu HMV.out.lt HB7.out.size)));have HB8:=Zh (Zb HB7.out hb8);have HC8:=Zh (HC6.out.below HB8.out HC6.out.lt);have HSX:=Zh (show ∀ V,Below w8.heap.size w8 V→V.cell? ⟨qb,2,none⟩=some (.slice CA NC cC)∧V.cell? ⟨w.heap.size,1,none⟩=some (.slice A2 n2 c2) from fun V hV=>⟨Zc hV (Zn _) (HQ.out w8 HX8.out).q2,Zc hV (Zn _) (Zq HC8.out)⟩);clear hb8 q1;(go_wp2_with fail);refine wp_region_held_drew (S:=fun V=>Below w8.heap.size w8 V) (by kernel_rfl) (Zr _ _).drew (fun _=>?_);refine tzd 0 106 ?_;refine tzd 4 110 ?_;refine tzd 8 114 ?_;refine tzd 12 118 ?_;refine tzb 16 122 ?_;refine tz 18 124 ?_;refine Zd ?_;(go_wp2_with fail);refine wp_region_held_drew (S:=fun V=>Below w8.heap.size w8 V) (by kernel_rfl) (Zr _ _).drew.drew (fun _=>?_);refine tzd 0 125 ?_;refine tzd 4 129 ?_;refine tzd 8 133 ?_;refine tz 12 137 ?_;refine tzb 13 6 ?_;refine Zd ?_;obtain ⟨v9,hv9⟩:∃ V,V=w8.drew.drew:=⟨_,rfl⟩;rw [←hv9];have HB9:=Zh (show Below w9.heap.size w9 v9 by rw [hv9];exact HB8.out.drew.drew);clear hv9;(go_wp2_with fail);refine bodyPost_ret (v:=.tuple #[.slice A2 n2 c2,.slice (CA.map (·.add e0)) n2 (cC-e0)]) (by simp [results,results104,go_sem]) rfl ?_;have hcl:=HCL.out.sub e0 n2 HBD.out.1;rw [HN2.out] at hcl;refine ⟨A2,_,n2,c2,_,(n+1),x.2,_,(fun p q=>if p=J∧q=c then some (.agg #[.slice A1 n1 c1,.slice A2 n2 c2]) else f p q),rfl,HNX2.out,HR2.out.le (G2.more HB9.out),?_,HMV.out.below HB9.out,HNN.out,HMCV.out.le (G2.more HB9.out),HX6.out.trans (Nxw.below HB9.out HMV.out.lt),HBD.out.2.2⟩;rw [HN2.out];exact hcl.le (HG2.out v9 (HX6.out.trans (Nxw.below HB9.out HMV.out.lt)))}
structure OR (V:World) (qb g o:Nat) (N:Qam) (ls:List (List Int)) (CA:Option Addr) (NC cC:Nat) (cl:List Int) (Q:Option Addr) (L cq mb:Nat):Prop where
 gr:Qfh V g N
 ov:Qgh V o N.ar ls
 part:RdT V Q L ls
 costs:RdI V CA NC cl
 q0:V.cell? ⟨qb,0,none⟩=some (.pointer (some ⟨g,0,none⟩))
 q1:V.cell? ⟨qb,1,none⟩=some (.pointer (some ⟨o,0,none⟩))
 q2:V.cell? ⟨qb,2,none⟩=some (.slice CA NC cC)
 q5:V.cell? ⟨qb,3,none⟩=some (.slice Q L cq)
 q6:V.cell? ⟨qb,4,none⟩=some (.map (some mb))
section
variable {V W:World} {qb g o:Nat} {N:Qam} {ls:List (List Int)} {CA:Option Addr} {NC cC:Nat} {cl:List Int} {Q:Option Addr} {L cq mb:Nat}
theorem OR.le (h:OR V qb g o N ls CA NC cC cl Q L cq mb)(hl:Le V W):OR W qb g o N ls CA NC cC cl Q L cq mb :=
 ⟨h.gr.le hl,h.ov.le hl,h.part.le hl,h.costs.le hl,hl _ _ h.q0,hl _ _ h.q1,hl _ _ h.q2,hl _ _ h.q5,hl _ _ h.q6⟩
theorem OR.below (h:OR V qb g o N ls CA NC cC cl Q L cq mb)(hb:Below V.heap.size V W):OR W qb g o N ls CA NC cC cl Q L cq mb:=h.le (Le.below hb)
end
set_option maxHeartbeats 1000000 in
theorem Qid (w:World)(qb g o:Nat)(N:Qam) (ls:List (List Int)) (CA:Option Addr) (NC cC:Nat) (cl:List Int) (Q:Option Addr) (L cq mb J j v:Nat) (l:List Int) (h:OR w qb g o N ls CA NC cC cl Q L cq mb) (hj:J=j+1) (hl:ls[j]?=some l) (hv:v<l.length) (hL:L≤1000000) :
 Calls prog 163 #[.pointer (some ⟨qb,0,none⟩),.int .i64 J,.int .i64 v] w fun e w'=>e=.returned (.tuple #[.int .i64 (Qaa l v),.bool true])∧w=w':=by
 have q5:=h.q5;obtain ⟨qb2,qo2,A0,n0,c0,l0,rfl,hl0,k0,k1,_,_⟩:=h.part.at_ (i:=j) (by have:=h.part.1;have:=(Zs hl).1;omega);rw [hl] at hl0;cases hl0;obtain ⟨kb,ko,z,rfl,hz,k2⟩:=k1.at_ (i:=v) (by rw [←k1.1];exact hv);have hc:Qaa l v=z:=by unfold Qaa;rw [Ya,Yl,hz];rfl
 have hjL:j<L:=by have:=h.part.1;have:=(Zs hl).1;omega
 have hn0:l.length=n0:=k1.1;rw [hc];have m1:¬((J:Int)<1):=by omega
 have m2:¬((L:Int)<J):=by omega
 have m3:¬((v:Int)<0):=by omega
 have m4:¬((n0:Int)≤v):=by omega
 have m5:(v:Int)<n0:=by omega
 have m6:(j:Int)<L:=by omega
 have m7:0≤(j:Int):=by omega
 have m8:0≤(v:Int):=by omega
 have m9:(J:Int)-1=j:=by omega
 have wl:IntKind.i64.wrap (j:Int)=(j:Int):=IntWalk.i64_in _ (by omega);clear h hl hz hc k1 hjL hj hn0 hv;go_enter func163,ntmps163
 go_wp2_with fail
 refine bodyPost_ret (v:=.tuple #[.int .i64 z,.bool true]) (by simp [results,results163,go_sem]) rfl ?_;exact ⟨rfl,rfl⟩
set_option maxHeartbeats 1000000 in
theorem Qrx (w:World)(qb g o:Nat)(N:Qam) (ls:List (List Int)) (CA:Option Addr) (NC cC:Nat) (cl:List Int) (Q:Option Addr) (L cq mb J j b:Nat) (c:Int) (l:List Int) (y:Tri) (h:OR w qb g o N ls CA NC cC cl Q L cq mb) (hok:Qap N) (hj:J=j+1) (hl:ls[j]?=some l) (hn:l.length=N.vs.length) (hL:L≤1000000) (hy:N.ar[b]?=some y) :
 Calls prog 166 #[.pointer (some ⟨qb,0,none⟩),.int .i64 J,.int .i64 c,.int .i64 b] w fun e w'=>e=.returned (.bool (decide (Qaa l y.1=c) && decide (Qaa l y.2.1=c)))∧w=w':=by
 obtain ⟨u,v,e1,e2,hu,hv⟩:=Qda hok hy;have hlv:=hok.lv;have HF:=Zh (Qgs g b N y w h.gr hy);have HT:=Zh (Qfj g b N y w h.gr hy);have HC1:=Zh (Qid w qb g o N ls CA NC cC cl Q L cq mb J j u l h hj hl (by omega) hL);have HC2:=Zh (Qid w qb g o N ls CA NC cC cl Q L cq mb J j v l h hj hl (by omega) hL);rw [←e1] at HC1;rw [←e2] at HC2;have q0:=h.q0;obtain ⟨u',hu'⟩:=Zx (Qaa l y.1);obtain ⟨v',hv'⟩:=Zx (Qaa l y.2.1);rw [←hu'] at HC1 ⊢;rw [←hv'] at HC2 ⊢;clear h hok hj hl hn hy e1 e2 hu hv hlv hu' hv';go_enter func166,ntmps166
 go_wp2_with fail
 with_reducible refine HF.out.mono ?_
 rintro r w' ⟨rfl,rfl⟩;go_wp2_with fail
 with_reducible refine HC1.out.mono ?_
 rintro r w' ⟨rfl,rfl⟩;go_wp2_with fail
 with_reducible refine HT.out.mono ?_
 rintro r w' ⟨rfl,rfl⟩;go_wp2_with fail
 with_reducible refine HC2.out.mono ?_
 rintro r w' ⟨rfl,rfl⟩;by_cases i1:u'=c <;> by_cases i2:v'=c
 all_goals
  go_wp2_with fail
  go_ret
  simp [i1,i2]
def RunP (N:Qam) (ls:List (List Int)) (av:List Int) (s t:Nat) (v:Int) (hs:List (Nat×Nat)):Prop :=
 (wV N s=1152921504606846976∧v=1152921504606846976∧hs=[])∨(wV N s≠1152921504606846976∧Lst (Rch (HSt N ls av) s t) v∧(v=1152921504606846976∧hs=[]∨HopP N ls av s t v hs))
def GoneQ (N:Qam)(os cs:List Int)(i:Nat):Nat→Int→Prop:=fun r d=>∃ (j:Nat) (v:Int) (y:Tri),j<i∧os[j]?=some (r:Int)∧cs[j]?=some v∧N.ar[r]?=some y∧v≠1152921504606846976∧y.2.2≠1152921504606846976∧d=v+y.2.2
structure Qub (N:Qam) (ls:List (List Int)) (av:List Int) (s t na:Nat) (dnf hp:Nat→Option Int) (dn:List Bool) (bf:List Int):Prop where
 dij:Dij (HSt N ls av) s dnf hp
 via:Qwg N ls av s bf dnf hp (dn.countP (fun b=>b))
 fl:∀ q,q<na→(dn.getD q false=true↔dnf q≠none)
 bd:∀ q e,hp q=some e→e≤MB+70379481595904
 ld:dn.length=na
 lb:bf.length=na
 nt:dnf t=none
structure Qqp (N:Qam) (ls:List (List Int)) (av:List Int) (s t na p:Nat) (c:Int) (os cs:List Int) (i:Nat) (dnf hp:Nat→Option Int) (dn:List Bool) (bf:List Int):Prop where
 dij:Qlz (HSt N ls av) s dnf hp p c (GoneQ N os cs i)
 via:Qwg N ls av s bf dnf hp (dn.countP (fun b=>b))
 fl:∀ q,q<na→(dn.getD q false=true↔dnf q≠none)
 bd:∀ q e,hp q=some e→e≤MB+70379481595904
 ld:dn.length=na
 lb:bf.length=na
 nt:dnf t=none
 c0:0≤c∧c≤MB
section
variable {N:Qam} {ls:List (List Int)} {av:List Int} {s t na p:Nat} {c:Int} {os cs:List Int} {i:Nat} {dnf hp:Nat→Option Int} {dn:List Bool} {bf:List Int}
theorem Qlz.conv {St:Qbf}{G G':Nat→Int→Prop}(h:Qlz St s dnf hp p c G)(hg:∀ r d,G' r d→G r d):Qlz St s dnf hp p c G' :=
 ⟨h.dr,h.dm,h.hr,h.off,fun q e r d h1 h2=>(h.on q e r d h1 h2).imp (fun h3=>⟨h3.1,fun h4=>h3.2 (hg r d h4)⟩) id,h.st,h.at_⟩
theorem HSt.pos (hok:Qap N)(a b:Nat)(d:Int)(h:HSt N ls av a b d):0≤d:=(h.bd hok).1
theorem Qub.init:Qub N ls av s t na (fun _=>none) (Qfg (fun _=>none) s 0) (List.replicate na false) (List.replicate na 0):=by
 have h1:∀ q,Qfg (fun _=>none) s 0 q=if q=s then some 0 else none:=fun q=>by{unfold Qfg;by_cases e:q=s <;> simp [e]}
 refine ⟨⟨fun p c e=>(by cases e),fun p c e=>(by cases e),fun p c e=>?_,fun p c e=>(by cases e),fun p c q d e=>(by cases e),.inr ⟨0,by rw [h1,if_pos rfl],Int.le_refl _⟩⟩,?_,fun q hq=>?_,fun q e h=>?_,by simp,by simp,rfl⟩;{rw [h1] at e;(split at e);{rename_i h2;subst h2;cases e;exact .start};{cases e}};{(have:(List.replicate na false).countP (fun b=>b)=0:=by simp);rw [this];exact Qwg.init h1};{rw [getD_rep];simp};{rw [h1] at h;(split at h);{cases h;unfold MB;omega};{cases h}}
theorem Qub.miss (hok:Qap N)(h:Qub N ls av s t na dnf hp dn bf)(he:∀ q,hp q=none):Lst (Rch (HSt N ls av) s t) 1152921504606846976:=h.dij.miss (HSt.pos hok) he h.nt
theorem Qub.hit (hok:Qap N)(h:Qub N ls av s t na dnf hp dn bf)(hp1:hp t=some c)(hm:∀ q e,hp q=some e→c≤e):Lst (Rch (HSt N ls av) s t) c:=h.dij.hit (HSt.pos hok) hp1 hm
theorem Qub.free (h:Qub N ls av s t na dnf hp dn bf)(hpn:p<na)(hp1:hp p=some c):dnf p=none∧dn.getD p false=false:=by
 have hno:dnf p=none:=by
  cases hd:dnf p with
  | none=>rfl
  | some e=>have:=h.dij.off p e hd;rw [hp1] at this;cases this
 refine ⟨hno,?_⟩
 cases hd:dn.getD p false with
 | false=>rfl
 | true=>exact absurd hno ((h.fl p hpn).1 hd)
theorem Qub.take (hok:Qap N)(hP:Qat N.vs.length ls) (hE:∀ (j:Nat) (l:List Int) (a b:Nat) (y z:Tri),ls[j]?=some l→N.ar[a]?=some y→N.ar[b]?=some z→Qaa l y.1≠Qaa l y.2.1→Qaa l z.1=Qaa l y.2.1→Qaa l z.2.1≠Qaa l y.2.1→∃ v,Qet N (Qbv l (Qaa l y.2.1)) a b v)
 (hs:∃ x,N.ar[s]?=some x) (hav:toV N s∈av) (h:Qub N ls av s t na dnf hp dn bf) (hpn:p<na) (hp1:hp p=some c) (hm:∀ q e,hp q=some e→c≤e) (hpt:p≠t) :
 Qqp N ls av s t na p c os cs 0 (fun q=>if q=p then some c else dnf q) (fun q=>if q=p then none else hp q) (dn.set p true) bf∧Qvz N ls av p:=by
 obtain ⟨hno,hdn⟩:=h.free hpn hp1;have hr:=h.dij.hr p c hp1;have hpl:p<dn.length:=by rw [h.ld];exact hpn
 refine ⟨⟨(h.dij.take (HSt.pos hok) hp1 hm).conv (fun r d ⟨j,_,_,hj,_⟩=>by omega),?_,fun q hq=>?_,fun q e hq=>?_,by rw [Yq];exact h.ld,h.lb,?_,hr.pos (HSt.pos hok),?_⟩,Qpt hok hP hav hr⟩;{rw [Qem hpl hdn];exact h.via.take hp1 hno};{by_cases e:q=p;{subst e;simp [hpl]};{(have e':¬p=q:=fun x=>e x.symm);exact Kcu}};{by_cases e1:q=p;{rw [if_pos e1] at hq;cases hq};{rw [if_neg e1] at hq;exact h.bd q e hq}};{simp only [if_neg (fun e:t=p=>hpt e.symm)];exact h.nt};{obtain ⟨e,h1,h2⟩:=rchH_bd hok hP hE hs hav hr;have:=h.dij.least (HSt.pos hok) hp1 hm e h1;omega}
theorem Qqp.skip (h:Qqp N ls av s t na p c os cs i dnf hp dn bf){b:Nat}{v:Int}{y:Tri} (hb:os[i]?=some (b:Int)) (hv:cs[i]?=some v) (hy:N.ar[b]?=some y) (hno:v=1152921504606846976∨y.2.2=1152921504606846976):Qqp N ls av s t na p c os cs (i+1) dnf hp dn bf :=
 ⟨h.dij.conv (fun r d ⟨j,v',y',hj,h1,h2,h3,h4,h5,h6⟩=>by
  by_cases e:j=i
  · subst e
    rw [hb] at h1;have e1:=Int.ofNat.inj (Yv h1);subst e1;rw [hv] at h2
    cases h2
    rw [hy] at h3
    cases h3
    rcases hno with g|g
    · exact absurd g h4
    · exact absurd g h5
  · exact ⟨j,v',y',by omega,h1,h2,h3,h4,h5,h6⟩),h.via,h.fl,h.bd,h.ld,h.lb,h.nt,h.c0⟩
theorem Qmj {b:Nat}{v:Int}{y:Tri} (hb:os[i]?=some (b:Int)) (hv:cs[i]?=some v) (hy:N.ar[b]?=some y) (r:Nat) (d:Int) (h:GoneQ N os cs (i+1) r d):GoneQ N os cs i r d∨(r=b∧d=v+y.2.2):=by obtain ⟨j,v',y',hj,h1,h2,h3,h4,h5,h6⟩:=h;by_cases e:j=i;{subst e;rw [hb] at h1;have e1:=Int.ofNat.inj (Yv h1);subst e1;rw [hv] at h2;cases h2;rw [hy] at h3;cases h3;exact .inr ⟨rfl,h6⟩};{exact .inl ⟨j,v',y',by omega,h1,h2,h3,h4,h5,h6⟩}
theorem Qqp.off (h:Qqp N ls av s t na p c os cs i dnf hp dn bf){b:Nat}{v:Int}{y:Tri} (hb:os[i]?=some (b:Int)) (hv:cs[i]?=some v) (hy:N.ar[b]?=some y) (hst:HSt N ls av p b (v+y.2.2)) (hbn:b<na) (hd:dn.getD b false=true):Qqp N ls av s t na p c os cs (i+1) dnf hp dn bf :=
 ⟨(h.dij.put hst (.inl ⟨(h.fl b hbn).1 hd,fun e he=>h.dij.dm b e he _ ((h.dij.dr p c h.dij.at_).step hst),rfl⟩)).conv (Qmj hb hv hy),h.via,h.fl,h.bd,h.ld,h.lb,h.nt,h.c0⟩
theorem Qqp.put (hok:Qap N)(h:Qqp N ls av s t na p c os cs i dnf hp dn bf){b:Nat}{v:Int}{y:Tri} (hb:os[i]?=some (b:Int)) (hv:cs[i]?=some v) (hy:N.ar[b]?=some y) (hst:HSt N ls av p b (v+y.2.2)) (hbn:b<na) (hd:dn.getD b false=false) :
 Qqp N ls av s t na p c os cs (i+1) dnf (Qfg hp b (c+(v+y.2.2))) dn (if Qlv hp b (c+(v+y.2.2)) then bf.set b (p:Int) else bf):=by
 have hdn:dnf b=none:=by
  cases e:dnf b with
  | none=>rfl
  | some x =>have:=(h.fl b hbn).2 (by rw [e];exact fun h=>by cases h);rw [hd] at this;cases this
 obtain ⟨x,hx⟩:=Zx (c+(v+y.2.2));rw [←hx];have hne:∀ r,r≠b→Qfg hp b x r=hp r:=fun r hr=>by unfold Qfg;rw [if_neg hr]
 have hat0:hp b=none→Qfg hp b x b=some x:=fun e=>by unfold Qfg;rw [if_pos rfl,e]
 have hat1:∀ z,hp b=some z→Qfg hp b x b=some (if z≤x then z else x):=fun z e=>by unfold Qfg;rw [if_pos rfl,e]
 have hbd:∀ q e,Qfg hp b x q=some e→e≤MB+70379481595904:=fun q e hq=>by
  by_cases e1:q=b
  · subst e1;have h1:=(hst.bd hok).2;have h2:=h.c0.2
    cases e2:hp q with
    | none=>rw [hat0 e2] at hq;cases hq;omega
    | some z =>rw [hat1 z e2] at hq;simp only [Option.some.injEq] at hq;have:=h.bd q z e2;split at hq <;> omega
  {rw [hne q e1] at hq;exact h.bd q e hq}
 refine ⟨(h.dij.put hst (.inr ⟨hdn,hne,?_⟩)).conv (Qmj hb hv hy),?_,h.fl,hbd,h.ld,by split <;> simp [h.lb],h.nt,h.c0⟩
 · cases e2:hp b with
   | none=>exact .inr ⟨fun e h=>(by cases h),by rw [hat0 e2,hx]⟩
   | some z =>by_cases e3:z≤x;{exact .inl ⟨z,rfl,by omega,by rw [hat1 z e2,if_pos e3]⟩};{exact .inr ⟨fun e h=>by cases h;omega,by rw [hat1 z e2,if_neg e3,hx]⟩}
 · cases e2:hp b with
   | none =>rw [show Qlv hp b x=true by unfold Qlv;rw [e2],if_pos rfl];exact h.via.put h.dij.at_ hdn (by rw [h.lb];exact hbn) hst hne (by rw [hat0 e2,hx])
   | some z =>by_cases e3:z≤x;{rw [show Qlv hp b x=false by unfold Qlv;rw [e2];simp [e3]];exact Kch};{rw [show Qlv hp b x=true by unfold Qlv;rw [e2];simp [e3],if_pos rfl];exact h.via.put h.dij.at_ hdn (by rw [h.lb];exact hbn) hst hne (by rw [hat1 z e2,if_neg e3,hx])}
theorem Qqp.all (h:Qqp N ls av s t na p c os cs i dnf hp dn bf)(hn:NxtP N ls av p os cs)(hi:os.length≤i):Qub N ls av s t na dnf hp dn bf :=
 ⟨h.dij.done (fun q d hq=>by
  obtain ⟨k,v,y,h1,h2,h3,h4,h5,h6⟩:=hn.all q d hq;exact ⟨k,v,y,by have:=(Zs h1).1;omega,h1,h2,h3,h4,h5,h6⟩),h.via,h.fl,h.bd,h.ld,h.lb,h.nt⟩
end
theorem Nxw.gb {mb:Nat}{w w':World}(h:Nxw mb w w'):w.grownBy w' (some mb):=⟨(h.bel 0 (Nat.zero_le _)).os,(h.bel 0 (Nat.zero_le _)).tape,(h.bel 0 (Nat.zero_le _)).output,h.size,fun k hk hne=>h.kept k (fun e=>hne (by rw [e])) hk⟩
theorem Qck.grown {W W':World}{G G':Nat→Prop}{g n mb:Nat}{hp:Nat→Option Int}(h:Qck W G g n hp) (hg:W.grownBy W' (some mb)) (hm:G mb) (hG:∀ b,G' b→b<W'.heap.size∧(G b∨W.heap.size≤b)):Qck W' G' g n hp:=by
 obtain ⟨A,gc,gs,m,c,R,C,S,h1,h2⟩:=h;have ho:∀ b,b<W.heap.size→¬G b→¬G' b:=fun b h3 h4 h5=>(hG b h5).2.elim h4 (fun h6=>by omega)
 have hne:∀ b,¬G b→b≠mb:=fun b hb e=>hb (e▸hm)
 refine ⟨A,gc,gs,m,c,R,C,S,⟨h1.blk.grown hg (fun e=>hne g h1.dG.1 (by injection e with e;exact e.symm)),h1.row.far hg (.inr (fun e=>hne mb (h1.dA mb e).2.2.2 rfl)),h1.cs.grown hg (fun e=>hne gc h1.dG.2.1 (by injection e with e;exact e.symm)),h1.ss.grown hg (fun e=>hne gs h1.dG.2.2 (by injection e with e;exact e.symm)),fun b hb'=>⟨(h1.dA b hb').1,(h1.dA b hb').2.1,(h1.dA b hb').2.2.1,ho b (h1.row.lt b hb').2 (h1.dA b hb').2.2.2⟩,h1.dg,⟨ho _ h1.blk.lt h1.dG.1,ho _ h1.cs.lt h1.dG.2.1,ho _ h1.ss.lt h1.dG.2.2⟩,fun b hb'=>(hG b hb').1,h1.lr,h1.lc,h1.ls,h1.n0⟩,h2⟩
structure Qoh (W:World) (G:Nat→Prop) (qb g o:Nat) (N:Qam) (ls:List (List Int)) (s t:Nat) (CA:Option Addr) (NC cC:Nat) (cl:List Int) (Q:Option Addr) (L cq mb bb db gh na n:Nat) (f:Nat→Nat→Option Value) (bf:List Int) (dn:List Bool) (hp:Nat→Option Int):Prop where
 qr:QR (msk W G) qb g o N ls s t CA NC cC cl Q L cq mb bb na
 mq:MpQ W mb n f
 mc:MpC W G N.ar ls f
 bfB:Blk W bb 3 (Qcf bf)
 dd:Blk W db 4 (Qfc dn)
 hh:Qck W (fun b=>G b∨b=mb∨b=bb∨b=db) gh na hp
 gl:∀ b,G b→b<W.heap.size
 nb:¬G mb∧¬G bb∧¬G db∧mb≠bb∧mb≠db∧bb≠db
 nn:n≤dn.countP (fun b=>b)
section
variable {W W':World} {G:Nat→Prop} {qb g o:Nat} {N:Qam} {ls:List (List Int)} {s t:Nat} {CA:Option Addr} {NC cC:Nat} {cl:List Int} {Q:Option Addr} {L cq mb bb db gh na n:Nat} {f:Nat→Nat→Option Value} {bf:List Int} {dn:List Bool} {hp:Nat→Option Int}
theorem Qoh.below (h:Qoh W G qb g o N ls s t CA NC cC cl Q L cq mb bb db gh na n f bf dn hp)(hb:Below W.heap.size W W'):Qoh W' G qb g o N ls s t CA NC cC cl Q L cq mb bb db gh na n f bf dn hp :=
 have hle:Le (msk W G) (msk W' G):=Qaz.msk (Qaz.below hb)
 ⟨h.qr.le hle,h.mq.below hb,h.mc.le hle,h.bfB.below hb h.bfB.lt,h.dd.below hb h.dd.lt,h.hh.more hb (fun b hb'=>⟨Yu (h.hh.lt b hb') hb.size,.inl hb'⟩),fun b hb'=>Yu (h.gl b hb') hb.size,h.nb,h.nn⟩
theorem Qoh.nxt {n':Nat}{f':Nat→Nat→Option Value}(h:Qoh W G qb g o N ls s t CA NC cC cl Q L cq mb bb db gh na n f bf dn hp)(hx:Nxw mb W W')(hm:MpQ W' mb n' f') (hc:MpC W' (G2 G W W') N.ar ls f') (hn:n'≤dn.countP (fun b=>b)):Qoh W' (G2 G W W') qb g o N ls s t CA NC cC cl Q L cq mb bb db gh na n' f' bf dn hp:=by
 have hng:∀ b,b<W.heap.size→¬G b→¬G2 G W W' b:=fun b h1 h2 h3=>h3.elim h2 (fun h4=>by omega)
 have hs:=hx.size;have hml:=h.mq.lt;have hbl:=h.bfB.lt;have hdl:=h.dd.lt;refine ⟨h.qr.le (G2.le hx h.nb.1),hm,hc,h.bfB.grown hx.gb (fun e=>h.nb.2.2.2.1 (by injection e)),h.dd.grown hx.gb (fun e=>h.nb.2.2.2.2.1 (by injection e)),h.hh.grown hx.gb (.inr (.inl rfl)) (fun b hb=>?_),fun b hb=>?_,⟨hng _ hml h.nb.1,hng _ hbl h.nb.2.1,hng _ hdl h.nb.2.2.1,h.nb.2.2.2⟩,hn⟩;{(rcases hb with (h1|h1)|rfl|rfl|rfl);{have:=h.gl b h1;exact ⟨by omega,.inl (.inl h1)⟩};{exact ⟨h1.2,.inr h1.1⟩};{exact ⟨by omega,.inl (.inr (.inl rfl))⟩};{exact ⟨by omega,.inl (.inr (.inr (.inl rfl)))⟩};{exact ⟨by omega,.inl (.inr (.inr (.inr rfl)))⟩}};{(rcases hb with h1|h1);{have:=h.gl b h1;omega};{exact h1.2}}
theorem Qoh.heap {hp':Nat→Option Int}(h:Qoh W G qb g o N ls s t CA NC cC cl Q L cq mb bb db gh na n f bf dn hp) (hh:Qck W' (fun b=>G b∨b=mb∨b=bb∨b=db) gh na hp') (ha:Aft (fun b=>G b∨b=mb∨b=bb∨b=db) W W'):Qoh W' G qb g o N ls s t CA NC cC cl Q L cq mb bb db gh na n f bf dn hp' :=
 have hle:Le (msk W G) (msk W' G):=Qaz.msk (ha.kept.mono (fun _ hb=>.inl hb))
 ⟨h.qr.le hle,h.mq.at_ (ha.kept mb (.inr (.inl rfl)) h.mq.lt),h.mc.le hle,(ha.kept bb (.inr (.inr (.inl rfl))) h.bfB.lt).trans h.bfB,(ha.kept db (.inr (.inr (.inr rfl))) h.dd.lt).trans h.dd,hh,fun b hb=>Yu (h.gl b hb) ha.size,h.nb,h.nn⟩
theorem Qke:∀ (l:List Bool)(p:Nat),l.countP (fun b=>b)≤(l.set p true).countP (fun b=>b)
 | [],p=>by simp
 | b::l,0=>by cases b <;> simp
 | b::l,p+1=>by have:=Qke l p;cases b <;> simp <;> omega
theorem Qoh.done (h:Qoh W G qb g o N ls s t CA NC cC cl Q L cq mb bb db gh na n f bf dn hp)(p:Nat):Qoh (W.setCell ⟨db,p,none⟩ (.bool true)) G qb g o N ls s t CA NC cC cl Q L cq mb bb db gh na n f bf (dn.set p true) hp :=
 have hle:Le (msk W G) (msk (W.setCell ⟨db,p,none⟩ (.bool true)) G):=Qaz.msk (Qaz.set _ _ _ _ h.nb.2.2.1)
 ⟨h.qr.le hle,h.mq.set (fun e=>h.nb.2.2.2.2.1 e.symm) _,h.mc.le hle,h.bfB.far_ h.nb.2.2.2.2.2 _,h.dd.setB rfl,h.hh.set (.inr (.inr (.inr rfl))) _,fun b hb=>by simpa [World.setCell] using h.gl b hb,h.nb,Yx h.nn (Qke _ _)⟩
theorem Qoh.bef (h:Qoh W G qb g o N ls s t CA NC cC cl Q L cq mb bb db gh na n f bf dn hp)(b p:Nat):Qoh (W.setCell ⟨bb,b,none⟩ (.int .i64 (p:Int))) G qb g o N ls s t CA NC cC cl Q L cq mb bb db gh na n f (bf.set b (p:Int)) dn hp :=
 have hle:Le (msk W G) (msk (W.setCell ⟨bb,b,none⟩ (.int .i64 (p:Int))) G):=Qaz.msk (Qaz.set _ _ _ _ h.nb.2.1)
 ⟨h.qr.le hle,h.mq.set (fun e=>h.nb.2.2.2.1 e.symm) _,h.mc.le hle,h.bfB.setI rfl,h.dd.far_ (fun e=>h.nb.2.2.2.2.2 e.symm) _,h.hh.set (.inr (.inr (.inl rfl))) _,fun b hb=>by simpa [World.setCell] using h.gl b hb,h.nb,h.nn⟩
end
structure OD where
 g:Nat
 o:Nat
 N:Qam
 ls:List (List Int)
 CA:Option Addr
 NC:Nat
 cC:Nat
 cl:List Int
 Q:Option Addr
 L:Nat
 cq:Nat
 qb:Nat
 mb:Nat
 hb:Nat
 bb:Nat
 db:Nat
 na:Nat
structure OdOk (E:OD):Prop where
 ok:Qap E.N
 hP:Qat E.N.vs.length E.ls
 hA:Qct E.N E.ls E.cl
 cc:E.NC≤E.cC∧E.cC≤9223372036854775807
 sm:Qbw (Qae E.N.ar E.ls)≤1000000000
 na:E.na=E.N.ar.length
def Qcx (E:OD)(R Lp:Int):Array Value:=#[.pointer (some ⟨E.g,0,none⟩),.pointer (some ⟨E.o,0,none⟩),.slice E.CA E.NC E.cC,.slice E.Q E.L E.cq,.map (some E.mb),.pointer (some ⟨E.hb,0,none⟩),.slice (some ⟨E.bb,0,none⟩) E.na E.na,.slice (some ⟨E.db,0,none⟩) E.na E.na,.int .i64 R,.int .i64 Lp]
structure OpW (W:World) (G X:Nat→Prop) (E:OD) (n:Nat) (f:Nat→Nat→Option Value) (bf dl:List Int) (hp:Nat→Option Int) (R Lp:Int):Prop where
 gr:Qfh (msk W G) E.g E.N
 ov:Qgh (msk W G) E.o E.N.ar E.ls
 part:RdT (msk W G) E.Q E.L E.ls
 costs:RdI (msk W G) E.CA E.NC E.cl
 blk:Blk W E.qb 162 (Qcx E R Lp)
 mq:MpQ W E.mb n f
 mc:MpC W G E.N.ar E.ls f
 bfB:Blk W E.bb 3 (Qcf bf)
 ddB:Blk W E.db 3 (Qcf dl)
 hh:Qck W (fun b=>(G b∨X b)∨b=E.mb∨b=E.bb∨b=E.db∨b=E.qb) E.hb E.na hp
 gl:∀ b,G b∨X b→b<W.heap.size
 nG:∀ b,G b∨X b→b≠E.mb∧b≠E.bb∧b≠E.db∧b≠E.qb
 ne:E.mb≠E.bb∧E.mb≠E.db∧E.mb≠E.qb∧E.bb≠E.db∧E.bb≠E.qb∧E.db≠E.qb
section
variable {W W':World} {G X:Nat→Prop} {E:OD} {n:Nat} {f:Nat→Nat→Option Value} {bf dl:List Int} {hp:Nat→Option Int} {R Lp:Int}
theorem Qvf (E:OD)(R Lp:Int):(Qcx E R Lp)[0]?=some (.pointer (some ⟨E.g,0,none⟩))∧(Qcx E R Lp)[1]?=some (.pointer (some ⟨E.o,0,none⟩))∧(Qcx E R Lp)[2]?=some (.slice E.CA E.NC E.cC)∧(Qcx E R Lp)[3]?=some (.slice E.Q E.L E.cq)∧(Qcx E R Lp)[4]?=some (.map (some E.mb)) ∧
 (Qcx E R Lp)[5]?=some (.pointer (some ⟨E.hb,0,none⟩))∧(Qcx E R Lp)[6]?=some (.slice (some ⟨E.bb,0,none⟩) E.na E.na)∧(Qcx E R Lp)[7]?=some (.slice (some ⟨E.db,0,none⟩) E.na E.na)∧(Qcx E R Lp)[8]?=some (.int .i64 R)∧(Qcx E R Lp)[9]?=some (.int .i64 Lp):=⟨rfl,rfl,rfl,rfl,rfl,rfl,rfl,rfl,rfl,rfl⟩
theorem OpW.at_ (h:OpW W G X E n f bf dl hp R Lp){i:Nat}{v:Value} (hv:(Qcx E R Lp)[i]?=some v):W.cell? ⟨E.qb,i,none⟩=some v:=by rw [h.blk.cell];exact hv
theorem OpW.c0 (h:OpW W G X E n f bf dl hp R Lp):W.cell? ⟨E.qb,0,none⟩=some (.pointer (some ⟨E.g,0,none⟩)):=h.at_ rfl
theorem OpW.c5 (h:OpW W G X E n f bf dl hp R Lp):W.cell? ⟨E.qb,5,none⟩=some (.pointer (some ⟨E.hb,0,none⟩)):=h.at_ rfl
theorem OpW.c6 (h:OpW W G X E n f bf dl hp R Lp):W.cell? ⟨E.qb,6,none⟩=some (.slice (some ⟨E.bb,0,none⟩) E.na E.na):=h.at_ rfl
theorem OpW.c7 (h:OpW W G X E n f bf dl hp R Lp):W.cell? ⟨E.qb,7,none⟩=some (.slice (some ⟨E.db,0,none⟩) E.na E.na):=h.at_ rfl
theorem OpW.c8 (h:OpW W G X E n f bf dl hp R Lp):W.cell? ⟨E.qb,8,none⟩=some (.int .i64 R):=h.at_ rfl
theorem OpW.c9 (h:OpW W G X E n f bf dl hp R Lp):W.cell? ⟨E.qb,9,none⟩=some (.int .i64 Lp):=h.at_ rfl
theorem OpW.rd (h:OpW W G X E n f bf dl hp R Lp):OR (msk W (fun b=>G b∨b=E.qb)) E.qb E.g E.o E.N E.ls E.CA E.NC E.cC E.cl E.Q E.L E.cq E.mb:=by
 have hle:Le (msk W G) (msk W (fun b=>G b∨b=E.qb)):=Qbe (fun _ hb=>.inl hb);have hc:∀ {i:Nat} {v:Value},(Qcx E R Lp)[i]?=some v→(msk W (fun b=>G b∨b=E.qb)).cell? ⟨E.qb,i,none⟩=some v:=fun hv=>Qff (h.at_ hv) (.inr rfl)
 obtain ⟨c0,c1,c2,c3,c4,_⟩:=Qvf E R Lp;exact ⟨h.gr.le hle,h.ov.le hle,h.part.le hle,h.costs.le hle,hc c0,hc c1,hc c2,hc c3,hc c4⟩
theorem OpW.below (h:OpW W G X E n f bf dl hp R Lp)(hb:Below W.heap.size W W'):OpW W' G X E n f bf dl hp R Lp :=
 have hle:Le (msk W G) (msk W' G):=Qaz.msk (Qaz.below hb)
 ⟨h.gr.le hle,h.ov.le hle,h.part.le hle,h.costs.le hle,h.blk.below hb h.blk.lt,h.mq.below hb,h.mc.le hle,h.bfB.below hb h.bfB.lt,h.ddB.below hb h.ddB.lt,h.hh.more hb (fun b hb'=>⟨Yu (h.hh.lt b hb') hb.size,.inl hb'⟩),fun b hb'=>Yu (h.gl b hb') hb.size,h.nG,h.ne⟩
theorem OpW.holds {X':Nat→Prop}(h:OpW W G X E n f bf dl hp R Lp)(hb:Below W.heap.size W W') (hX:∀ b,X' b→X b∨(W.heap.size≤b∧b<W'.heap.size)):OpW W' G X' E n f bf dl hp R Lp:=by have g:=h.below hb;have hm:=h.mq.lt;have hbl:=h.bfB.lt;have hd:=h.ddB.lt;have hq:=h.blk.lt;have hs:=hb.size;refine ⟨g.gr,g.ov,g.part,g.costs,g.blk,g.mq,g.mc,g.bfB,g.ddB,h.hh.more hb (fun b hb'=>?_),fun b hb'=>?_,fun b hb'=>?_,h.ne⟩;{(rcases hb' with (h1|h1)|h1|h1|h1|h1);{exact ⟨g.gl b (.inl h1),.inl (.inl (.inl h1))⟩};{(rcases hX b h1 with h2|h2);{exact ⟨g.gl b (.inr h2),.inl (.inl (.inr h2))⟩};{exact ⟨h2.2,.inr h2.1⟩}};{exact ⟨by omega,.inl (.inr (.inl h1))⟩};{exact ⟨by omega,.inl (.inr (.inr (.inl h1)))⟩};{exact ⟨by omega,.inl (.inr (.inr (.inr (.inl h1))))⟩};{exact ⟨by omega,.inl (.inr (.inr (.inr (.inr h1))))⟩}};{(rcases hb' with h1|h1);{exact g.gl b (.inl h1)};{(rcases hX b h1 with h2|h2);{exact g.gl b (.inr h2)};{exact h2.2}}};{(rcases hb' with h1|h1);{exact h.nG b (.inl h1)};{(rcases hX b h1 with h2|h2);{exact h.nG b (.inr h2)};{exact ⟨by omega,by omega,by omega,by omega⟩}}}
theorem OpW.nxt {n':Nat}{f':Nat→Nat→Option Value}(h:OpW W G X E n f bf dl hp R Lp)(hx:Nxw E.mb W W')(hm:MpQ W' E.mb n' f') (hc:MpC W' (G2 G W W') E.N.ar E.ls f'):OpW W' (G2 G W W') X E n' f' bf dl hp R Lp:=by have hs:=hx.size;have hml:=h.mq.lt;have hbl:=h.bfB.lt;have hdl:=h.ddB.lt;have hql:=h.blk.lt;have hle:=G2.le (G:=G) hx (fun hg=>(h.nG _ (.inl hg)).1 rfl);refine ⟨h.gr.le hle,h.ov.le hle,h.part.le hle,h.costs.le hle,h.blk.grown hx.gb (fun e=>h.ne.2.2.1 (by injection e)),hm,hc,h.bfB.grown hx.gb (fun e=>h.ne.1 (by injection e)),h.ddB.grown hx.gb (fun e=>h.ne.2.1 (by injection e)),h.hh.grown hx.gb (.inr (.inl rfl)) (fun b hb=>?_),fun b hb=>?_,fun b hb=>?_,h.ne⟩;{(rcases hb with ((h1|h1)|h1)|h1|h1|h1|h1);{have:=h.gl b (.inl h1);exact ⟨by omega,.inl (.inl (.inl h1))⟩};{exact ⟨h1.2,.inr h1.1⟩};{have:=h.gl b (.inr h1);exact ⟨by omega,.inl (.inl (.inr h1))⟩};{exact ⟨by omega,.inl (.inr (.inl h1))⟩};{exact ⟨by omega,.inl (.inr (.inr (.inl h1)))⟩};{exact ⟨by omega,.inl (.inr (.inr (.inr (.inl h1))))⟩};{exact ⟨by omega,.inl (.inr (.inr (.inr (.inr h1))))⟩}};{(rcases hb with (h1|h1)|h1);{have:=h.gl b (.inl h1);omega};{exact h1.2};{have:=h.gl b (.inr h1);omega}};{(rcases hb with (h1|h1)|h1);{exact h.nG b (.inl h1)};{exact ⟨by omega,by omega,by omega,by omega⟩};{exact h.nG b (.inr h1)}}
theorem OpW.heap {hp':Nat→Option Int}(h:OpW W G X E n f bf dl hp R Lp) (hh:Qck W' (fun b=>(G b∨X b)∨b=E.mb∨b=E.bb∨b=E.db∨b=E.qb) E.hb E.na hp') (ha:Aft (fun b=>(G b∨X b)∨b=E.mb∨b=E.bb∨b=E.db∨b=E.qb) W W'):OpW W' G X E n f bf dl hp' R Lp :=
 have hle:Le (msk W G) (msk W' G):=Qaz.msk (ha.kept.mono (fun _ hb=>.inl (.inl hb)))
 ⟨h.gr.le hle,h.ov.le hle,h.part.le hle,h.costs.le hle,(ha.kept E.qb (.inr (.inr (.inr (.inr rfl)))) h.blk.lt).trans h.blk,h.mq.at_ (ha.kept E.mb (.inr (.inl rfl)) h.mq.lt),h.mc.le hle,(ha.kept E.bb (.inr (.inr (.inl rfl))) h.bfB.lt).trans h.bfB,(ha.kept E.db (.inr (.inr (.inr (.inl rfl)))) h.ddB.lt).trans h.ddB,hh,fun b hb=>Yu (h.gl b hb) ha.size,h.nG,h.ne⟩
theorem OpW.le_set (h:OpW W G X E n f bf dl hp R Lp){k:Nat}(hk:k=E.bb∨k=E.db∨k=E.qb)(i:Nat)(v:Value):Le (msk W G) (msk (W.setCell ⟨k,i,none⟩ v) G) :=
 Qaz.msk (Qaz.set _ _ _ _ (fun hg=>by
  have:=h.nG k (.inl hg)
  rcases hk with e|e|e
  · exact this.2.1 e
  · exact this.2.2.1 e
  · exact this.2.2.2 e))
theorem OpW.done (h:OpW W G X E n f bf dl hp R Lp)(p:Nat)(x:Int):OpW (W.setCell ⟨E.db,p,none⟩ (.int .i64 x)) G X E n f bf (dl.set p x) hp R Lp :=
 have hle:=h.le_set (.inr (.inl rfl)) p (.int .i64 x)
 ⟨h.gr.le hle,h.ov.le hle,h.part.le hle,h.costs.le hle,h.blk.far_ (fun e=>h.ne.2.2.2.2.2 e.symm) _,h.mq.set (fun e=>h.ne.2.1 e.symm) _,h.mc.le hle,h.bfB.far_ h.ne.2.2.2.1 _,h.ddB.setI rfl,h.hh.set (.inr (.inr (.inr (.inl rfl)))) _,fun b hb=>by simpa [World.setCell] using h.gl b hb,h.nG,h.ne⟩
theorem OpW.bef (h:OpW W G X E n f bf dl hp R Lp)(b:Nat)(x:Int):OpW (W.setCell ⟨E.bb,b,none⟩ (.int .i64 x)) G X E n f (bf.set b x) dl hp R Lp :=
 have hle:=h.le_set (.inl rfl) b (.int .i64 x)
 ⟨h.gr.le hle,h.ov.le hle,h.part.le hle,h.costs.le hle,h.blk.far_ (fun e=>h.ne.2.2.2.2.1 e.symm) _,h.mq.set (fun e=>h.ne.1 e.symm) _,h.mc.le hle,h.bfB.setI rfl,h.ddB.far_ (fun e=>h.ne.2.2.2.1 e.symm) _,h.hh.set (.inr (.inr (.inl rfl))) _,fun b hb=>by simpa [World.setCell] using h.gl b hb,h.nG,h.ne⟩
theorem OpW.own (h:OpW W G X E n f bf dl hp R Lp)(i:Nat)(v:Value){R' Lp':Int} (hc:(Qcx E R Lp).setIfInBounds i v=Qcx E R' Lp'):OpW (W.setCell ⟨E.qb,i,none⟩ v) G X E n f bf dl hp R' Lp' :=
 have hle:=h.le_set (.inr (.inr rfl)) i v
 ⟨h.gr.le hle,h.ov.le hle,h.part.le hle,h.costs.le hle,by rw [←hc];exact h.blk.set_ i v,h.mq.set (fun e=>h.ne.2.2.1 e.symm) _,h.mc.le hle,h.bfB.far_ h.ne.2.2.2.2.1 _,h.ddB.far_ h.ne.2.2.2.2.2 _,h.hh.set (.inr (.inr (.inr (.inr rfl)))) _,fun b hb=>by simpa [World.setCell] using h.gl b hb,h.nG,h.ne⟩
theorem OpW.rnd (h:OpW W G X E n f bf dl hp R Lp)(R':Int):OpW (W.setCell ⟨E.qb,8,none⟩ (.int .i64 R')) G X E n f bf dl hp R' Lp:=h.own 8 _ rfl
theorem OpW.lps (h:OpW W G X E n f bf dl hp R Lp)(L':Int):OpW (W.setCell ⟨E.qb,9,none⟩ (.int .i64 L')) G X E n f bf dl hp R L':=h.own 9 _ rfl
theorem OpW.grow {X':Nat→Prop}{r:Option Nat}(h:OpW W G X E n f bf dl hp R Lp)(hg:W.grownBy W' r)(hr:∀ b,r=some b→X b∧¬G b) (hX:∀ b,X' b→X b∨(W.heap.size≤b∧b<W'.heap.size)):OpW W' G X' E n f bf dl hp R Lp:=by
 cases r with
 | none=>exact h.holds ⟨hg.os,hg.tape,hg.output,hg.size,fun k hk=>hg.block k hk (by simp)⟩ hX
 | some c =>
  obtain ⟨hc,hcg⟩:=hr c rfl;have hn:=h.nG c (.inr hc);have hs:=hg.size;have hm:=h.mq.lt;have hbl:=h.bfB.lt;have hd:=h.ddB.lt;have hq:=h.blk.lt;have hne:∀ b,b≠c→some c≠some b:=fun b h1 e=>h1 (by injection e with e;exact e.symm)
  have hle:Le (msk W G) (msk W' G):=Qaz.msk (Qaz.grown hg (fun b hb e=>hcg (by cases e;exact hb)));refine ⟨h.gr.le hle,h.ov.le hle,h.part.le hle,h.costs.le hle,h.blk.grown hg (hne _ hn.2.2.2.symm),h.mq.grown hg (fun e=>hn.1 (by injection e)),h.mc.le hle,h.bfB.grown hg (hne _ hn.2.1.symm),h.ddB.grown hg (hne _ hn.2.2.1.symm),h.hh.grown hg (.inl (.inr hc)) (fun b hb=>?_),fun b hb=>?_,fun b hb=>?_,h.ne⟩;{(rcases hb with (h1|h1)|h1|h1|h1|h1);{have:=h.gl b (.inl h1);exact ⟨by omega,.inl (.inl (.inl h1))⟩};{(rcases hX b h1 with h2|h2);{have:=h.gl b (.inr h2);exact ⟨by omega,.inl (.inl (.inr h2))⟩};{exact ⟨h2.2,.inr h2.1⟩}};{exact ⟨by omega,.inl (.inr (.inl h1))⟩};{exact ⟨by omega,.inl (.inr (.inr (.inl h1)))⟩};{exact ⟨by omega,.inl (.inr (.inr (.inr (.inl h1))))⟩};{exact ⟨by omega,.inl (.inr (.inr (.inr (.inr h1))))⟩}};{(rcases hb with h1|h1);{have:=h.gl b (.inl h1);omega};{(rcases hX b h1 with h2|h2);{have:=h.gl b (.inr h2);omega};{exact h2.2}}};{(rcases hb with h1|h1);{exact h.nG b (.inl h1)};{(rcases hX b h1 with h2|h2);{exact h.nG b (.inr h2)};{exact ⟨by omega,by omega,by omega,by omega⟩}}}
end
theorem Aft.less {G G':Nat→Prop}{W W':World}(h:Aft G' W W')(hs:∀ b,G b→G' b):Aft G W W':=⟨h.kept.mono hs,h.size,fun B hB=>h.bel B (fun b hb=>hs b (hB b hb))⟩
theorem Own.keepK {w w':World}{B s n c:Nat}{e:TypeId}{A:Option Addr}{xs:List Value}{G:Nat→Prop}(h:Own w B e s A n c xs)(hk:Qaz G w w')(hG:∀ b,Qab A=some b→G b):Own w' B e s A n c xs:=by
 refine ⟨h.1,?_⟩;rcases h.2 with hn|⟨g,cap,cur,e1,hb,hgg,rest⟩
 {exact .inl hn};{refine .inr ⟨g,cap,cur,e1,hb,?_,rest⟩;rw [hk g (hG g (by cases e1;rfl)) (Array.getElem?_eq_some_iff.1 hgg).1];exact hgg}
end Go.Proofs.YtdheeddnkdhfeaaGreatDoor
