/- Qbl of the proof: Le2, Le3, Le4, Wp, BkQ, Mp, RiP. -/
import Derived.Test.YtkaaakbejnlbgaaGreatDoorD12
import Derived.Maps.OwnSet
import Derived.Maps.OwnOps
set_option maxHeartbeats 2000000
set_option maxRecDepth 100000
namespace Go.Proofs.YtkaaakbejnlbgaaGreatDoor
open Go.RowKit Go.Proofs.Tryz
attribute [local go_sem ↓] Go.wp_at_zero Go.wp_at_succ
def Qtl (W0:World)(k:Nat)(caps:Array Value)(L:Nat→List Stp)(n:Nat):Prop :=
 (∀ (args:Array Value) (W:World),(callFunc k args).run prog W=.ok (.enter k args) W)∧∀ (W:World) (p:Nat) (I:Nat→World→Prop) (c1 c2 c3 c4:Nat),p<n→I 0 W →
  (∀ i s V,(L p)[i]?=some s→I i V→Calls prog 186 #[.agg #[.int .i64 s.1,.int .i64 s.2.1,.int .i64 s.2.2],.pointer (some ⟨c1,0,none⟩),.pointer (some ⟨c2,0,none⟩),.pointer (some ⟨c3,0,none⟩),.pointer (some ⟨c4,0,none⟩)] V (fun e V'=>e=.returned (.tuple #[])∧I (i+1) V')) →
  (∀ i V V',I i V→Bw V V'→I i V')→(∀ i V,I i V→Le W0 V) →
  Calls prog k (#[.int .i64 p,.func (.func 186) #[] #[.pointer (some ⟨c1,0,none⟩),.pointer (some ⟨c2,0,none⟩),.pointer (some ⟨c3,0,none⟩),.pointer (some ⟨c4,0,none⟩)]] ++caps) W (fun e W'=>e=.returned (.tuple #[])∧I (L p).length W')
theorem Rai (N i:Nat)(h:i<N)(x y:Int):(List.replicate i x ++List.replicate (N-i) y).set i x=List.replicate (i+1) x ++List.replicate (N-(i+1)) y:=by rw [List.set_append_right _ _ Sm,List.length_replicate,Yy];obtain ⟨m,hm⟩:∃ m,N-i=m+1:=⟨N-i-1,Oo⟩;rw [hm,show N-(i+1)=m by omega,List.replicate_succ,Yj,List.replicate_succ',List.append_assoc];rfl
structure RunF (V:World) (f c1 c3 c4 cb db gh n ns sc k off outs cap:Nat) (SA:Oz) (caps:Array Value):Prop where
 f0:V.cell? ⟨f,0,none⟩=some (.int .i64 n)
 f1:V.cell? ⟨f,1,none⟩=some (.slice SA ns sc)
 f2:V.cell? ⟨f,2,none⟩=some (.func (.func k) #[] caps)
 r0:V.cell? ⟨c1,0,none⟩=some (.slice (some ⟨cb,off,none⟩) outs cap)
 d0:V.cell? ⟨c3,0,none⟩=some (.slice (some ⟨db,0,none⟩) n n)
 x4:V.cell? ⟨c4,0,none⟩=some (.pointer (some ⟨gh,0,none⟩))
theorem RunF.le {V V':World}{f c1 c3 c4 cb db gh n ns sc k off outs cap:Nat}{SA:Oz}{caps:Array Value}(h:RunF V f c1 c3 c4 cb db gh n ns sc k off outs cap SA caps)(hl:Le V V'):RunF V' f c1 c3 c4 cb db gh n ns sc k off outs cap SA caps :=
 ⟨hl _ _ h.f0,hl _ _ h.f1,hl _ _ h.f2,hl _ _ h.r0,hl _ _ h.d0,hl _ _ h.x4⟩
structure OutW (w W:World) (K:Nat→Prop) (c4 gh n ns sc k:Nat) (SA:Oz) (caps:Array Value) (cl:Iz) (hp:Nat→Option Int):Prop where
 hh:Qcx W (fun b=>K b∨b=w.heap.size+1) gh n hp
 kb:¬K (w.heap.size+1)
 kl:∀ b,K b→b<W.heap.size
 k0:∀ b,b≤w.heap.size→K b
 k4:K c4
 bb:Blk W (w.heap.size+1) 2 (Qbr cl)
 f0:W.cell? ⟨w.heap.size,0,none⟩=some (.int .i64 n)
 f1:W.cell? ⟨w.heap.size,1,none⟩=some (.slice SA ns sc)
 f2:W.cell? ⟨w.heap.size,2,none⟩=some (.func (.func k) #[] caps)
 x4:W.cell? ⟨c4,0,none⟩=some (.pointer (some ⟨gh,0,none⟩))
 bel:Bw w W
def Rax (L:Nat→List Stp)(starts:List Nat)(outs N i:Nat)(cl:Iz):Prop:=cl.length=N∧(∀ j s q,j<i→starts[j]?=some s→q<outs→Lst (Qwl (StF L) (OuF L) s q) (cl.getD (j*outs+q) 0))∧∀ q,i*outs≤q→q<N→cl.getD q 0=1152921504606846976
theorem LeW.base {W0 W:World}{K:Nat→Prop}{cb db gh n:Nat}{cl:Iz}{dn:List Bool}{hp:Nat→Option Int}(h:LeW W0 W K cb db gh n cl dn hp):LeW W W K cb db gh n cl dn hp :=
 ⟨Qaz.refl _ _,Zn _,h.b0,h.dd,h.hh,h.ld,fun b hb=>Yu (h.kl b hb) h.size,h.kb⟩
theorem LeW.grow {W0 W W':World}{K K2:Nat→Prop}{cb db gh n:Nat}{cl:Iz}{dn:List Bool}{hp:Nat→Option Int}(h:LeW W0 W K cb db gh n cl dn hp)(hb:Bw W W') (hK:∀ b,K2 b→K b∨(W.heap.size≤b∧b<W'.heap.size)):LeW W' W' K2 cb db gh n cl dn hp:=by have hl:=h.base.kl;have hs:=hb.size;refine ⟨Qaz.refl _ _,Zn _,h.b0.below hb h.b0.lt,h.dd.below hb h.dd.lt,h.hh.more hb (fun b hb'=>?_),h.ld,fun b hb'=>?_,fun e=>?_,fun e=>?_,h.kb.2.2⟩;{have l1:=h.b0.lt;have l2:=h.dd.lt;(rcases hb' with h1|h1|h1);{(rcases hK b h1 with h2|h2);{exact ⟨by have:=hl b h2;omega,.inl (.inl h2)⟩};{exact ⟨h2.2,.inr h2.1⟩}};{exact ⟨Oo,.inl (.inr (.inl h1))⟩};{exact ⟨Oo,.inl (.inr (.inr h1))⟩}};{(rcases hK b hb' with h2|h2);{have:=hl b h2;omega};{exact h2.2}};{have:=h.b0.lt;(rcases hK _ e with h2|h2);{exact h.kb.1 h2};{omega}};{have:=h.dd.lt;(rcases hK _ e with h2|h2);{exact h.kb.2.1 h2};{omega}}
theorem mid_eq (cl:Iz)(off outs:Nat):mid (cl.take off) ((cl.drop off).take outs) (cl.drop (off+outs))=cl:=by unfold mid;rw [List.append_assoc,←List.drop_drop,List.take_append_drop,List.take_append_drop]
theorem Rgs {pre row row' post:Iz}(hr:row.length=row'.length){q:Nat}(h:q<pre.length∨pre.length+row.length≤q):(mid pre row post).getD q 0=(mid pre row' post).getD q 0:=by
 unfold mid;rw [Ya,Ya,List.append_assoc,List.append_assoc];rcases h with h|h
 {rw [Yc h,Yc h]};{rw [Yb Oo,Yb Oo,Yb Oo,Yb Oo,hr]}
theorem Rax.next {L:Nat→List Stp}{starts:List Nat}{outs N i s:Nat}{cl row:Iz}(h:Rax L starts outs N i cl) (hs:starts[i]?=some s) (hN:i*outs+outs≤N) (hr:row.length=outs) (hl:∀ q,q<outs→Lst (Qwl (StF L) (OuF L) s q) (row.getD q 0)) :
 Rax L starts outs N (i+1) (mid (cl.take (i*outs)) row (cl.drop (i*outs+outs))):=by
 obtain ⟨h1,h2,h3⟩:=h;have hpl:(cl.take (i*outs)).length=i*outs:=by rw [Yw];omega
 have hm:=mid_eq cl (i*outs) outs;have hml:((cl.drop (i*outs)).take outs).length=outs:=by rw [Yw,List.length_drop];omega
 refine ⟨?_,fun j t q hj ht hq=>?_,fun q hq hqn=>?_⟩;{unfold mid;rw [Yp,Yp,hpl,hr,List.length_drop];omega};{(rcases Nat.lt_or_ge j i with hji|hji);{have hlt:j*outs+q<i*outs:=by{have:=Nat.mul_le_mul_right outs (show j+1≤i by omega);rw [Nat.succ_mul] at this;omega};rw [Rgs (row':=(cl.drop (i*outs)).take outs) Oo (.inl Oo),hm];exact h2 j t q hji ht hq};{(obtain rfl:j=i:=Oo);rw [hs] at ht;cases ht;obtain ⟨z,hz⟩:∃ z,row[q]?=some z:=⟨_,Zg Oo⟩;have:=Rgr (pre:=cl.take (j*outs)) (post:=cl.drop (j*outs+outs)) hz;rw [hpl] at this;rw [Ya,this];have h4:=hl q hq;rw [Ya,hz] at h4;exact h4}};{rw [Nat.succ_mul] at hq;rw [Rgs (row':=(cl.drop (i*outs)).take outs) Oo (.inr Oo),hm];exact h3 q Oo hqn}
theorem Qzw (w:World)(n ns sc outs k:Nat)(SA:Oz)(caps:Array Value)(starts:List Nat)(L:Nat→List Stp)(M D:Int) (hS:RdI w SA ns (nis starts)) (hs:∀ s∈starts,s<n) (hn:n≤16384) (hns:ns≤16384) (houts:outs≤16384) (ho:0<outs)
 (hnx:Qtl w k caps L n) (hf:Qti L n outs D) (he:∀ p,n≤p→L p=[]) (hM:∀ s∈starts,∀ p c,Rch (StF L) s p c→∃ e,Rch (StF L) s p e∧e≤M) (hM0:0≤M) (hD0:0≤D) (hMD:M+D≤500000000000000000) :
 Calls prog 125 #[.agg #[.int .i64 n,.slice SA ns sc,.func (.func k) #[] caps],.int .i64 outs] w
  fun e w'=>∃ b cl,e=.returned (.slice (some ⟨b,0,none⟩) (ns*outs) (ns*outs))∧Blk w' b 2 (Qbr cl)∧cl.length=ns*outs∧(∀ i s q,starts[i]?=some s→q<outs→Lst (Qwl (StF L) (OuF L) s q) (cl.getD (i*outs+q) 0))∧w.heap.size≤b∧Bw w w':=by
 have hN:ns*outs≤268435456:=Yx (Nat.mul_le_mul hns houts) Sd;obtain ⟨N,hNe⟩:=Zx (ns*outs);have hmk:=Qde N Oo;have hNi:((N:Nat):Int)=(ns:Int)*outs:=by rw [hNe];exact Int.natCast_mul ns outs
 have e1:IntKind.i64.wrap ((ns:Int)*outs)=(N:Int):=by rw [←hNi];exact IntWalk.i64_in _ Oo
 have HNE:=Zh hNe;have HS:=Zh hS;rw [←hNe] at hN ⊢;clear hNe hS hNi;go_enter func125,ntmps125
 go_wp2_with fail
 (refine Qai ?_;intro w1 hw1);have hb1:Bw w w1:=by rw [hw1];exact Qag
 have hX1:Blk w1 w.heap.size 219 #[.int .i64 n,.slice SA ns sc,.func (.func k) #[] caps]:=by rw [hw1];exact Qbi
 have hC1:Blk w1 (w.heap.size+1) 2 (Qbr (List.replicate 0 1152921504606846976 ++List.replicate (N-0) 0)):=by rw [hw1,Nat.sub_zero,List.replicate_zero,List.nil_append,←Qbx];exact Qbi
 clear hw1;go_loopw [23] (fun q W=>∃ i:Nat,q=.int .i64 i∧i≤N∧Bw w W∧Blk W w.heap.size 219 #[.int .i64 n,.slice SA ns sc,.func (.func k) #[] caps]∧Blk W (w.heap.size+1) 2 (Qbr (List.replicate i 1152921504606846976 ++List.replicate (N-i) 0))) (fun q _=>N-(intOf q).toNat)
 case atStart=>exact ⟨0,by go_num,Nat.zero_le _,hb1,hX1,hC1⟩
 case round =>
  clear hb1 hX1 hC1;obtain ⟨i,rfl,hin,hb,hX,hC⟩:=hrel;by_cases hlt:i<N
  {obtain ⟨v0,hv0⟩:∃ v0,(List.replicate i (1152921504606846976:Int) ++List.replicate (N-i) 0)[i]?=some v0:=⟨_,Zg (by simp;omega)⟩;have c0:=hC.cellI hv0;have f0:=hC.frozen i;have HC:=Zh (hC.setI (Rai N i hlt 1152921504606846976 0));have HX:=Zh (hX.far_ (b:=w.heap.size+1) (o:=i) Oo (.int .i64 1152921504606846976));have HB:=Zh (show Bw w (wr.setCell ⟨w.heap.size+1,i,none⟩ (.int .i64 1152921504606846976)) from Zi hb Oo);(have i1:0≤(i:Int):=Oo);(have i2:(i:Int)<N:=Oo);clear hb hX hC hv0;(go_wp2_with fail);go_roundw;(case rel=>exact ⟨i+1,by go_num,Oo,HB.o,HX.o,HC.o⟩);case measure=>simp [intOf];omega}
  · (obtain rfl:N=i:=Oo);rw [Yy,List.replicate_zero,List.append_nil] at hC;have x0:wr.cell? ⟨w.heap.size,0,none⟩=some (.int .i64 n):=Zq hX;have x1:wr.cell? ⟨w.heap.size,1,none⟩=some (.slice SA ns sc):=Zq hX;have hxl:=hX.lt;have hclr:=hC.lt;(go_wp2_with fail);(with_reducible refine (Qrw wr n hn).mono ?_);rintro e w3 ⟨gh,rfl,hh,hb3⟩;have hX3:=hX.below hb3 hX.lt;have hC3:=hC.below hb3 hC.lt;have hbw3:=Zb hb hb3;have x1':w3.cell? ⟨w.heap.size,1,none⟩=some (.slice SA ns sc):=Zq hX3;have hxl3:=hX3.lt;have HH:=Zh hh;clear x0 x1 hX hC hb hh;(go_wp2_with fail);(refine Qai ?_;intro w4 hw4);(have hb4:Bw w3 w4:=by rw [hw4];exact (Zr _ _).alloc (Zn _) _);(have hz4:w4.heap.size=w3.heap.size+1:=by rw [hw4];simp);(have hZ4:Blk w4 w3.heap.size 230 #[.pointer (some ⟨gh,0,none⟩)]:=by rw [hw4];exact Qbi);have hX4:=hX3.below hb4 hX3.lt;have hC4:=hC3.below hb4 hC3.lt;have hs3:=hb3.size;have hcl:=hC3.lt
    have HO:=Zh (show OutW w w4 (fun b=>(b<wr.heap.size∨b=w3.heap.size)∧b≠w.heap.size+1) w3.heap.size gh n ns sc k SA caps (List.replicate N 1152921504606846976) (fun _=>none) from
     ⟨HH.o.more hb4 (fun b hb=>by have hb':((b<wr.heap.size∨b=w3.heap.size)∧b≠w.heap.size+1)∨b=w.heap.size+1:=hb;show b<w4.heap.size∧(b<wr.heap.size∨w3.heap.size≤b);omega),fun e=>e.2 rfl,fun b hb=>by have hb':(b<wr.heap.size∨b=w3.heap.size)∧b≠w.heap.size+1:=hb;omega,fun b hb=>(show (b<wr.heap.size∨b=w3.heap.size)∧b≠w.heap.size+1 by omega),(show (w3.heap.size<wr.heap.size∨w3.heap.size=w3.heap.size)∧w3.heap.size≠w.heap.size+1 by omega),hC4,Zq hX4,Zq hX4,Zq hX4,Zq hZ4,Zb hbw3 hb4⟩)
    have HD:=Zh (show Rax L starts outs N 0 (List.replicate N 1152921504606846976) from ⟨Sm,fun j s q hj=>by omega,fun q _ hq=>by rw [Ya,List.getElem?_replicate,if_pos hq];rfl⟩);clear hw4 hb4 hz4 hZ4 hX4 hC4 hb3 hX3 hC3 hbw3 HH x1' hxl hxl3 hs3 hcl hclr hmk;(go_loopw [36] (fun q W=>∃ (i:Nat) (K:Nat→Prop) (hp:Nat→Option Int) (cl:Iz),q=.int .i64 i∧i≤ns∧OutW w W K w3.heap.size gh n ns sc k SA caps cl hp∧Rax L starts outs N i cl) (fun q _=>ns-(intOf q).toNat));case atStart=>exact ⟨0,_,_,_,by go_num,Nat.zero_le _,HO.o,HD.o⟩
    case round =>
     clear HO HD;obtain ⟨i,K,hp,cl,rfl,hin,hO,hD⟩:=hrel;obtain ⟨wo,rfl⟩:=Zx wr;by_cases hlt:i<ns
     · obtain ⟨s,hs'⟩:∃ s,starts[i]?=some s:=⟨_,Zg (by have:=HS.o.1;rw [Qeg] at this;omega)⟩;(obtain ⟨sb,so,hSA,hcs⟩:=(HS.o.below hO.bel).2 i _ (Qez hs');subst hSA;have f0:=hO.f0;have f1:=hO.f1;have x4:=hO.x4;have HO:=Zh hO;have HD:=Zh hD;have HS':=Zh hs';have i1:0≤(i:Int):=Oo);(have i2:(i:Int)<ns:=Oo);(obtain ⟨off,hoff⟩:=Zx (i*outs);have hle:off+outs≤N:=by have:=Nat.mul_le_mul_right outs (show i+1≤ns by omega);rw [Nat.succ_mul] at this;rw [HNE.o,hoff];exact this);(have hoffi:(off:Int)=i*outs:=by rw [hoff];exact Int.natCast_mul i outs);(have e2:IntKind.i64.wrap ((i:Int)*outs)=(off:Int):=by rw [←hoffi];exact IntWalk.i64_in _ Oo);(have e3:IntKind.i64.wrap (((i:Int)+1)*(outs:Int))=((off+outs:Nat):Int):=by rw [Int.add_mul,Int.one_mul,←hoffi];push_cast;exact IntWalk.i64_in _ Oo);(have HOF:=Zh hoff;have hmb:=Qki n Oo;have lt0:=hO.kl _ (hO.k0 _ (Zn _));have lt4:=hO.kl _ hO.k4;have lt4a:w3.heap.size<wo.heap.size+1:=Oo);(have lt4b:w3.heap.size<wo.heap.size+1+1:=Oo);clear hO hD hs' hoff hoffi;(go_wp2_with fail);(refine Qab ?_;intro w5 hw5);(have hb5:Bw wo w5:=by rw [hw5];exact (((Zr _ _).alloc (Zn _) _).alloc Sm _).alloc (by simp;omega) _);(have hz5:w5.heap.size=wo.heap.size+3:=by rw [hw5];simp);(have B1:Blk w5 wo.heap.size 37 #[.slice (some ⟨w.heap.size+1,off,none⟩) outs (N-off)]:=by rw [hw5];exact Qbi);(have BD:Blk w5 (wo.heap.size+1) 4 (Qdy (List.replicate n false)):=by rw [hw5,←Qil];exact Qbi);(have B3:Blk w5 (wo.heap.size+1+1) 123 #[.slice (some ⟨wo.heap.size+1,0,none⟩) n n]:=by rw [hw5];exact Qbi);(clear hw5;obtain ⟨K1,hK1⟩:∃ K1:Nat→Prop,K1=fun b=>K b∨b=wo.heap.size∨b=wo.heap.size+1+1:=⟨_,rfl⟩);(have hK1':∀ b,K1 b→K b∨b=wo.heap.size∨b=wo.heap.size+1+1:=fun b hb=>by rw [hK1] at hb;exact hb);have HK1:=Zh (show (∀ b,K b→K1 b)∧K1 wo.heap.size∧K1 (wo.heap.size+1+1) from by rw [hK1];exact ⟨fun b hb=>.inl hb,.inr (.inl rfl),.inr (.inr rfl)⟩);have hlc:=HO.o.bb.lt
       have HL5:=Zh (show LeW w5 w5 K1 (w.heap.size+1) (wo.heap.size+1) gh n cl (List.replicate n false) hp from
        ⟨Qaz.refl _ _,Zn _,HO.o.bb.below hb5 hlc,BD,HO.o.hh.more hb5 (fun b hb=>by
         have hkl:=HO.o.kl b
         rcases hb with h1|h1|h1
         · rcases hK1' b h1 with h2|h2
           · exact ⟨by have:=hkl h2;omega,.inl (.inl h2)⟩
           · exact ⟨Oo,.inr Oo⟩
         · exact ⟨Oo,.inl (.inr h1)⟩
         · exact ⟨Oo,.inr Oo⟩),Sm,fun b hb=>by
         have hkl:=HO.o.kl b
         rcases hK1' b hb with h2|h2
         · have:=hkl h2;omega
         · omega,⟨fun e=>(hK1' _ e).elim HO.o.kb (fun h=>by omega),fun e=>(hK1' _ e).elim (fun h=>by have:=HO.o.kl _ h;omega) (fun h=>by omega),Oo⟩⟩)
       have HF5:=Zh (show RunF (msk w5 K1) w.heap.size wo.heap.size (wo.heap.size+1+1) w3.heap.size (w.heap.size+1) (wo.heap.size+1) gh n ns sc k off outs (N-off) (some ⟨sb,so,none⟩) caps from
        have hk:=HK1.o;have hc:=fun a v=>Zc (w:=wo) (w':=w5) (B:=wo.heap.size) hb5 (a:=a) (v:=v) (Zn _)
        ⟨Qgo (hc _ _ HO.o.f0) (hk.1 _ (HO.o.k0 _ (Zn _))),Qgo (hc _ _ HO.o.f1) (hk.1 _ (HO.o.k0 _ (Zn _))),Qgo (hc _ _ HO.o.f2) (hk.1 _ (HO.o.k0 _ (Zn _))),Qgo (Zq B1) hk.2.1,Qgo (Zq B3) hk.2.2,Qgo (hc _ _ HO.o.x4) (hk.1 _ HO.o.k4)⟩)
       (have HB5:=Zh (Zb HO.o.bel hb5);with_reducible refine (Rbu w5 hp HL5.o.hh).mono ?_);rintro e w6 ⟨rfl,hh6,ha6⟩;have HL6:=Zh (HL5.o.put hh6 ha6).base;have HF6:=Zh (HF5.o.le (ha6.kept.mono (fun _ hb=>.inl hb)).msk);have HB6:=Zh (HB5.o.trans (ha6.bel _ (fun b hb=>.inl (HK1.o.1 _ (HO.o.k0 _ Oo)))));have x46:=(HF6.o.le (Qan _ _)).x4;clear hh6 ha6 hb5 hz5 B1 BD B3 hmb;(go_wp2_with fail);(have hsn:=hs s (Zm HS'.o);with_reducible refine (Qgk w6 (fun _=>none) HL6.o.hh s hsn 0 Oo Oo).mono ?_);rintro e w7 ⟨rfl,hh7,ha7⟩;have HL7:=Zh (HL6.o.put hh7 ha7).base;have HF7:=Zh (HF6.o.le (ha7.kept.mono (fun _ hb=>.inl hb)).msk);have HB7:=Zh (HB6.o.trans (ha7.bel _ (fun b hb=>.inl (HK1.o.1 _ (HO.o.k0 _ Oo)))));clear hh7 ha7 x46;(go_wp2_with fail);(have hpl:(cl.take off).length=off:=by rw [Yw,HD.o.1];omega);have HPL:=Zh hpl
       have HI7:=Zh (LeI.init (L:=L) (n:=n) (outs:=outs) (start:=s) (B:=M+D) (hp:=Qem (fun _=>none) s 0) (row:=(cl.drop off).take outs) Oo (fun q=>by unfold Qem;rfl) (by
        refine List.ext_getElem? (fun q=>?_)
        rcases Nat.lt_or_ge q outs with h1|h1
        · have h2:=HD.o.2.2 (off+q) (by rw [←HOF.o];omega) Oo
          rw [List.getElem?_take_of_lt h1,List.getElem?_drop,List.getElem?_replicate,if_pos h1];rw [Ya] at h2;have h3:off+q<cl.length:=by rw [HD.o.1];omega
          rw [Zg h3] at h2 ⊢;exact congrArg some h2
        · rw [Yd (by rw [Yw];omega),Yd (by rw [List.length_replicate];exact h1)]))
       have HM7:=Zh (mid_eq cl off outs);clear hpl f0 f1 x4 hcs lt0 lt4 lt4a lt4b hK1;have HK7:=Zh (show ∀ b,b≤w.heap.size→K1 b from fun b hb=>HK1.o.1 _ (HO.o.k0 _ hb));have HK74:=Zh (show K1 w3.heap.size from HK1.o.1 _ HO.o.k4);(have h0:∀ p q d,StF L p q d→0≤d:=fun p q d h=>(StF.bd hf he h).1);have HMs:=Zh (hM s (Zm HS'.o));have HNX:=Zh hnx.2;have HL7':=Zh (show LeW w7 w7 K1 (w.heap.size+1) (wo.heap.size+1) gh n (mid (cl.take off) ((cl.drop off).take outs) (cl.drop (off+outs))) (List.replicate n false) (Qem (fun _=>none) s 0) by rw [HM7.o];exact HL7.o);clear HL7 HM7 HL5 HL6 HF5 HF6 HB5 HB6 hlc
       go_loopw [] (fun W=>∃ (K2:Nat→Prop) (dnf hp2:Nat→Option Int) (dn:List Bool) (row:Iz),(∀ b,K1 b→K2 b)∧LeW W W K2 (w.heap.size+1) (wo.heap.size+1) gh n (mid (cl.take off) row (cl.drop (off+outs))) dn hp2∧LeI L n outs s (M+D) dnf hp2 dn row ∧
        RunF (msk W K2) w.heap.size wo.heap.size (wo.heap.size+1+1) w3.heap.size (w.heap.size+1) (wo.heap.size+1) gh n ns sc k off outs (N-off) (some ⟨sb,so,none⟩) caps∧Bw w W) (fun W=>n-doneW (wo.heap.size+1) W)
       case atStart=>exact ⟨K1,_,_,_,_,fun _ h=>h,HL7'.o,HI7.o,HF7.o,HB7.o⟩
       case round =>
        clear HL7' HI7 HF7 HB7;obtain ⟨K2,dnf,hp2,dn,row,hk2,hw,hi,hF,hb⟩:=hrel;obtain ⟨v8,rfl⟩:=Zx wr;have x4:=(hF.le (Qan _ _)).x4;have HPO:=Zh (Qrx v8 hp2 hw.hh);have HK2:=Zh hk2;have HW:=Zh hw;have HI:=Zh hi;have HF:=Zh hF;have HB:=Zh hb;clear hk2 hw hi hF hb;(go_wp2_with fail);(with_reducible refine HPO.o.mono ?_);rintro e w9 ⟨h9,ha9⟩;have HF9:=Zh (HF.o.le (ha9.kept.mono (fun _ hb=>.inl hb)).msk);have HB9:=Zh (HB.o.trans (ha9.bel _ (fun b hb=>.inl (HK2.o _ (HK7.o b Oo)))));have HA9:=Zh ha9;clear ha9;(rcases h9 with ⟨hno,rfl,hh⟩|⟨p,z,hpn,hpz,hmin,rfl,hh⟩);{have HL9:=Zh (HW.o.put hh HA9.o);(have HNO:=Zh hno;have HDN:=Zh (HI.o.done hf he HMs.o Oo hno);clear hno hh;obtain ⟨w10,hw10⟩:=Zx (w9.alloc (.cells #[.int .i64 0] 2));have hb10:Below w9.heap.size w9 w10:=by rw [hw10];exact (Zr _ _).alloc (Zn _) _);have HW10:=Zh hw10;have HLA:=Zh (HL9.o.below hb10).base;have HFA:=Zh ((HF9.o.le (Qaz.below hb10).msk).le (Qan _ _));have HBA:=Zh (Zb HB9.o hb10);clear hw10 hb10;(go_wp2_with fail);rw [←HW10.o];go_roundw;(case rel =>have hfa:=HFA.o;refine ⟨i+1,K2,hp2,(mid (cl.take off) row (cl.drop (off+outs))),by go_num,Oo,⟨HLA.o.hh.less (fun b hb=>hb.elim .inl (fun h=>.inr (.inl h))),HLA.o.kb.1,HLA.o.kl,fun b hb=>HK2.o _ (HK7.o b hb),HK2.o _ HK74.o,HLA.o.b0,hfa.f0,hfa.f1,hfa.f2,hfa.x4,HBA.o⟩,?_⟩;have:=Rax.next (row:=row) HD.o HS'.o (by rw [←HOF.o];exact hle) HI.o.lr HDN.o;rw [←HOF.o] at this;exact this);case measure=>simp [intOf];omega}
        · have HL9:=Zh (HW.o.put hh HA9.o);have hz0:0≤z:=(HI.o.dij.hr p z hpz).pos h0;have hzM:z≤M:=HI.o.dij.bdTake h0 HMs.o hpz hmin
          have hdk:dn.getD p false=false:=by
           cases hd:dn.getD p false with
           | false=>rfl
           | true =>
            have h1:=(HI.o.fl p hpn).1 hd
            cases h2:dnf p with
            | none=>exact absurd h2 h1
            | some e=>have:=HI.o.dij.off p e h2;rw [hpz] at this;cases this
          (have hkl:p<dn.length:=by rw [HW.o.ld];exact hpn);(have HDK:=Zh hdk;have HKL:=Zh hkl;have HMI:=Zh hmin;have HPZ:=Zh hpz;have hf9:=HF9.o.le (Qan _ _);have hl9:=HL9.o.dd.lt;have hbp:=HL9.o.dd.cellB (i:=p) (Qbo false hkl);have q1:∀ ob,(w9.alloc ob).cell? ⟨wo.heap.size+1+1,0,none⟩=some (.slice (some ⟨wo.heap.size+1,0,none⟩) n n):=fun ob=>Zc ((Zr w9.heap.size w9).alloc (Zn _) ob) (Zn _) hf9.d0);(have q2:∀ ob,(w9.alloc ob).cell? ⟨wo.heap.size+1,p,none⟩=some (.bool (dn.getD p false)):=fun ob=>Zc ((Zr w9.heap.size w9).alloc (Zn _) ob) (Zn _) hbp);(have q3:∀ ob,(w9.alloc ob).frozen? ⟨wo.heap.size+1,p,none⟩=false:=fun ob=>(HL9.o.dd.alloc ob).frozen p);(have hm9:=HL9.o.mark (p:=p);have hf10:=hf9.f2;have hne:¬w.heap.size=wo.heap.size+1:=fun e=>HL9.o.kb.2.1 (e▸HK2.o _ (HK7.o _ (Zn _))));have q4':(w9.setCell ⟨wo.heap.size+1,p,none⟩ (.bool true)).cell? ⟨w.heap.size,2,none⟩=some (.func (.func k) #[] caps):=by{rw [World.cell?_setCell_other _ _ _ _ Sm];exact hf10};(have q4:∀ ob,((w9.setCell ⟨wo.heap.size+1,p,none⟩ (.bool true)).alloc ob).cell? ⟨w.heap.size,2,none⟩=some (.func (.func k) #[] caps):=fun ob=>Zc ((Zr (w9.setCell ⟨wo.heap.size+1,p,none⟩ (.bool true)).heap.size _).alloc (Zn _) ob) (Zn _) q4');(have HM9:=Zh hm9;clear hf10 q4' hm9;have i3:0≤(p:Int):=Oo);(have i4:(p:Int)<n:=Oo);clear hh hpz hmin hdk hkl hf9 hbp;have hcf:=hnx.1;(go_wp2_with fail);(refine Qab ?_;intro w10 hw10);(clear hcf;have hz9:(w9.setCell ⟨wo.heap.size+1,p,none⟩ (.bool true)).heap.size=w9.heap.size:=by simp [World.setCell]);(have hb10:Below (w9.setCell ⟨wo.heap.size+1,p,none⟩ (.bool true)).heap.size (w9.setCell ⟨wo.heap.size+1,p,none⟩ (.bool true)) w10:=by rw [hw10];exact (Zr _ _).alloc (Zn _) _);(have hC10:Blk w10 w9.heap.size 2 #[.int .i64 z]:=by rw [hw10];exact Blk.new' _ _ _ hz9.symm);(have hz10:w10.heap.size=w9.heap.size+1:=by rw [hw10];simp);(obtain ⟨K3,hK3⟩:∃ K3:Nat→Prop,K3=fun b=>K2 b∨b=w9.heap.size:=⟨_,rfl⟩);(have hK3':∀ b,K3 b→K2 b∨b=w9.heap.size:=fun b hb=>by rw [hK3] at hb;exact hb);(have hK23:∀ b,K2 b→K3 b:=fun b hb=>by rw [hK3];exact .inl hb);(have hK3c:K3 w9.heap.size:=by rw [hK3];exact .inr rfl);have hkb2:¬K2 (wo.heap.size+1):=HL9.o.kb.2.1;have HL10:=Zh (HM9.o.grow (K2:=K3) hb10 (fun b hb=>(hK3' b hb).imp id (fun e=>by rw [hz9,hz10];omega)));have HF10:=Zh (show RunF (msk w10 K3) _ _ _ _ _ _ _ _ _ _ _ _ _ _ _ _ from HF9.o.le ((Qaz.msk (show Qaz K2 w9 w10 from (Qaz.set _ _ _ _ hkb2).trans (Qaz.below hb10) (by rw [hz9];exact Zn _))).trans (Qbj hK23)));have HB10:=Zh (show Bw w w10 from Zb (Zi (b:=wo.heap.size+1) (o:=p) (u:=.bool true) HB9.o (by have:=HO.o.bel.size;omega)) hb10);have HK23:=Zh hK23;have HR10:=Zh (show LeR (msk w10 K3) wo.heap.size w9.heap.size (wo.heap.size+1+1) w3.heap.size (w.heap.size+1) (wo.heap.size+1) gh n off outs (N-off) z from ⟨HF10.o.r0,Qgo (Zq hC10) hK3c,HF10.o.d0,HF10.o.x4⟩);(have hk0:∀ b,b<w.heap.size→K3 b:=fun b hb=>hK23 _ (HK2.o _ (HK7.o b Oo)));clear hK3 hK3' hK23 hK3c hkb2 hb10 hC10 hz10 hz9 hw10 q1 q2 q3 q4
          have HCA:=Zh (HNX.o w10 p (fun q V=>LeW w10 V K3 (w.heap.size+1) (wo.heap.size+1) gh n (mid (cl.take off) (((L p).take q).foldl (Qcw (dn.set p true) z) (row,fun q=>if q=p then none else hp2 q)).1 (cl.drop (off+outs))) (dn.set p true) (((L p).take q).foldl (Qcw (dn.set p true) z) (row,fun q=>if q=p then none else hp2 q)).2∧Aft K3 w10 V) wo.heap.size w9.heap.size (wo.heap.size+1+1) w3.heap.size hpn
           ⟨HL10.o,Aft.refl _ _⟩ (fun q t V ht hv=>by
            obtain ⟨hv,ha⟩:=hv;have hm:=Zm ht
            have hfold:((L p).take (q+1)).foldl (Qcw (dn.set p true) z) (row,fun q=>if q=p then none else hp2 q)=Qcw (dn.set p true) z (((L p).take q).foldl (Qcw (dn.set p true) z) (row,fun q=>if q=p then none else hp2 q)) t:=by
             rw [List.take_add_one,ht,List.foldl_append];rfl
            have hlen:(((L p).take q).foldl (Qcw (dn.set p true) z) (row,fun q=>if q=p then none else hp2 q)).1.length=outs:=by rw [Qnn];exact HI.o.lr
            rw [hfold];generalize (((L p).take q).foldl (Qcw (dn.set p true) z) (row,fun q=>if q=p then none else hp2 q))=st at hv hlen;have hbd:=hf.bd p hpn t hm;exact (Rfy w10 V K3 wo.heap.size w9.heap.size (wo.heap.size+1+1) w3.heap.size (w.heap.size+1) (wo.heap.size+1) gh n off outs (N-off) (cl.take off) st.1 (cl.drop (off+outs)) (dn.set p true) st.2 z t HR10.o hv HPL.o hlen (hf.out p hpn t hm) (hf.to_ p hpn t hm) hz0 hbd.1 Oo).mono (fun e V' h=>⟨h.1,h.2.1,ha.trans h.2.2⟩))
           (fun q V V' hv hb=>⟨hv.1.below hb,hv.2.trans (Aft.below hb (fun b hb'=>hv.1.base.kl b hb'))⟩)
           (fun q V hv=>Le.below (HB10.o.trans (hv.2.bel _ hk0))))
          (with_reducible refine HCA.o.mono ?_);rintro e w11 ⟨rfl,hw11,ha11⟩;rw [List.take_length] at hw11;have HI11:=Zh (HI.o.next hf he HMs.o (Int.le_refl _) hpn HPZ.o HMI.o);have HW11:=Zh hw11.base;have HF11:=Zh (HF10.o.le ha11.kept.msk);have HB11:=Zh (HB10.o.trans (ha11.bel _ hk0));clear hw11 ha11 HCA;(go_wp2_with fail);go_roundw;(case rel=>exact ⟨K3,_,_,_,_,fun b hb=>HK23.o _ (HK2.o _ hb),HW11.o,HI11.o,HF11.o,HB11.o⟩);case measure =>rw [Qhu HW11.o.dd,Qhu HW.o.dd,Qcz HKL.o HDK.o];have h1:=Qht (dn.set p true);rw [Qcz HKL.o HDK.o,Yq,HW.o.ld] at h1;omega
     {(obtain rfl:ns=i:=Oo);have HD:=Zh hD;have HO:=Zh hO;clear hD hO;(go_wp2_with fail);go_ret;exact ⟨_,cl,rfl,HO.o.bb,HD.o.1,fun j s q h1 h2=>HD.o.2.1 j s q (by have:=(Zs h1).1;have h3:=HS.o.1;rw [Qeg] at h3;omega) h1 h2,Oo,HO.o.bel⟩}
def Qpz (l:List Stp):List Tri:=l.map (fun s=>((s.1:Int),s.2.1,s.2.2))
theorem Rar {l:List Stp}{i:Nat}{s:Stp} (h:l[i]?=some s):(Qpz l)[i]?=some ((s.1:Int),s.2.1,s.2.2):=by simp [Qpz,h]
def Qiw (W:World)(SB:Oz)(n:Nat)(L:Nat→List Stp):Prop:=∀ p,p<n→∃ b o A m c,SB=some ⟨b,o,none⟩∧W.cell? ⟨b,o+p,none⟩=some (.slice A m c)∧Rd3 W A m (Qpz (L p))∧m≤1000000
theorem Qiw.le {W W':World}{SB:Oz}{n:Nat}{L:Nat→List Stp}(h:Qiw W SB n L)(hl:Le W W'):Qiw W' SB n L:=fun p hp=>by obtain ⟨b,o,A,m,c,h1,h2,h3,h4⟩:=h p hp;exact ⟨b,o,A,m,c,h1,hl _ _ h2,h3.le hl,h4⟩
theorem Qxy (W0:World)(cs n cap:Nat)(SB:Oz)(L:Nat→List Stp) (hc:W0.cell? ⟨cs,0,none⟩=some (.slice SB n cap)) (h:Qiw W0 SB n L):Qtl W0 184 #[.pointer (some ⟨cs,0,none⟩)] L n:=by
 refine ⟨fun args W=>by simp [go_sem],fun W p I c1 c2 c3 c4 hp h0 hst hbl hle=>?_⟩;have hl0:=hle 0 W h0;obtain ⟨b,o,A,m,c,rfl,g1,g2,g3⟩:=h p hp;have k0:=hl0 _ _ hc;have k1:=hl0 _ _ g1;have i1:0≤(p:Int):=Oo
 have i2:(p:Int)<n:=Oo
 have HLE:=Zh hle;have HST:=Zh hst;have HBL:=Zh hbl;have HG2:=Zh g2;have H0:=Zh h0;have hlen:(L p).length=m:=by have:=g2.1;simpa [Qpz] using this
 have HLN:=Zh hlen;clear hle hst hbl hl0 g2 h0 hlen h hc;show Calls prog 184 #[.int .i64 p,.func (.func 186) #[] #[.pointer (some ⟨c1,0,none⟩),.pointer (some ⟨c2,0,none⟩),.pointer (some ⟨c3,0,none⟩),.pointer (some ⟨c4,0,none⟩)],.pointer (some ⟨cs,0,none⟩)] W _
 go_enter func184,ntmps184
 go_wp2_with fail
 go_loopw [12] (fun q V=>∃ i:Nat,q=.int .i64 i∧i≤m∧I i V) (fun q _=>m-(intOf q).toNat)
 case atStart=>exact ⟨0,by go_num,Nat.zero_le _,H0.o⟩
 case round =>
  obtain ⟨i,rfl,hin,hI⟩:=hrel;obtain ⟨v8,rfl⟩:=Zx wr;have HI:=Zh hI;by_cases hlt:i<m
  {obtain ⟨s,hs⟩:∃ s,(L p)[i]?=some s:=⟨_,Zg (by rw [HLN.o];exact hlt)⟩;(obtain ⟨sb,so,rfl,s0,s1,s2⟩:=(HG2.o.le (HLE.o i v8 hI)).2 i _ (Rar hs);have HS:=Zh hs;have j1:0≤(i:Int):=Oo);(have j2:(i:Int)<m:=Oo);clear hs hI;(go_wp2_with fail);(refine Qab ?_;intro w2 hw2);(have hb2:Bw v8 w2:=by rw [hw2];exact (Zr _ _).alloc (Zn _) _);(have HI2:=Zh (HBL.o i v8 w2 HI.o hb2);clear hw2 hb2;with_reducible refine (HST.o i s w2 HS.o HI2.o).mono ?_);rintro e w3 ⟨rfl,hI3⟩;have HI3:=Zh hI3;clear hI3;(go_wp2_with fail);go_roundw;(case rel=>exact ⟨i+1,by go_num,Oo,HI3.o⟩);case measure=>simp [intOf];omega};{(obtain rfl:m=i:=Oo);(go_wp2_with fail);go_end0;exact ⟨rfl,by rw [HLN.o];exact HI.o⟩}
def Qgv (costs:Iz):Nat→List Stp→List Stp
 | _,[]=>[]
 | f,s::l=>(if costs.getD f 0<1152921504606846976∧s.2.2<1152921504606846976 then [(s.1,s.2.1,s.2.2+costs.getD f 0)] else []) ++Qgv costs (f+1) l
theorem Qpc (costs:Iz):∀ (a b:List Stp) (f:Nat),Qgv costs f (a ++b)=Qgv costs f a ++Qgv costs (f+a.length) b
 | [],b,f=>by simp [Qgv]
 | s::a,b,f=>by simp only [List.cons_append,Qgv,Qpc costs a b (f+1),List.length_cons,List.append_assoc];rw [show f+(a.length+1)=f+1+a.length by omega]
theorem Qqx (costs:Iz){l:List Stp}{i:Nat}{s:Stp} (h:l[i]?=some s) (f:Nat):Qgv costs f (l.take (i+1))=Qgv costs f (l.take i) ++(if costs.getD (f+i) 0<1152921504606846976∧s.2.2<1152921504606846976 then [(s.1,s.2.1,s.2.2+costs.getD (f+i) 0)] else []):=by have hi:=(Zs h).1;rw [Yf hi,(Zs h).2,Qpc,Yw,Nat.min_eq_left Oo];simp [Qgv]
theorem toldK_at (costs:Iz){l:List Stp}{i:Nat}{s:Stp} (h:l[i]?=some s) (f:Nat) (ht:costs.getD (f+i) 0<1152921504606846976∧s.2.2<1152921504606846976):(Qgv costs f l)[(Qgv costs f (l.take i)).length]?=some (s.1,s.2.1,s.2.2+costs.getD (f+i) 0):=by have h1:=Qqx costs h f;rw [if_pos ht] at h1;have h2:=Qpc costs (l.take (i+1)) (l.drop (i+1)) f;rw [List.take_append_drop] at h2;rw [h2,h1,List.append_assoc,Yb (Zn _),Yy];rfl
theorem Qke (costs:Iz):∀ {l:List Stp} {f:Nat} {t:Stp},t∈Qgv costs f l↔∃ (i:Nat) (s:Stp),l[i]?=some s∧costs.getD (f+i) 0<1152921504606846976∧s.2.2<1152921504606846976∧t=(s.1,s.2.1,s.2.2+costs.getD (f+i) 0)
 | [],f,t=>by simp [Qgv]
 | s::l,f,t=>by
  simp only [Qgv,List.mem_append,Qke costs (l:=l)];constructor;{rintro (h|⟨i,s',h1,h2,h3,h4⟩);{(by_cases hc:costs.getD f 0<1152921504606846976∧s.2.2<1152921504606846976);{rw [if_pos hc] at h;exact ⟨0,s,rfl,hc.1,hc.2,by simpa using h⟩};{rw [if_neg hc] at h;cases h}};{refine ⟨i+1,s',by simpa using h1,?_⟩;rw [show f+(i+1)=f+1+i by omega];exact ⟨h2,h3,h4⟩}}
  · rintro ⟨i,s',h1,h2,h3,h4⟩
    cases i with
    | zero =>(left);(have:s=s':=by simpa using h1);subst this;rw [Nat.add_zero] at h2 h4;rw [if_pos ⟨h2,h3⟩,h4];simp
    | succ i =>(right);refine ⟨i,s',by simpa using h1,?_⟩;rw [show f+1+i=f+(i+1) by omega];exact ⟨h2,h3,h4⟩
def Qxk (costs:Iz) (spots:List (Int×Nat)) (LL:Nat→List Stp) (p:Nat):List Stp:=match spots[p]? with|some x=>Qgv costs x.1.toNat (LL x.2)|none=>[]
theorem Qzu {costs:Iz} {spots:List (Int×Nat)} {LL:Nat→List Stp} {p l:Nat} {f:Int} (h:spots[p]?=some (f,l)):Qxk costs spots LL p=Qgv costs f.toNat (LL l):=by unfold Qxk;rw [h]
theorem Qxz (W0:World)(cs cl cc n nk N cap1 cap2 cap3:Nat)(SA LA CA:Oz) (spots:List (Int×Nat)) (LL:Nat→List Stp) (costs:Iz)
 (h1:W0.cell? ⟨cs,0,none⟩=some (.slice SA n cap1)) (h2:W0.cell? ⟨cl,0,none⟩=some (.slice LA nk cap2)) (h3:W0.cell? ⟨cc,0,none⟩=some (.slice CA N cap3))
 (g1:RdP W0 SA n (spots.map (fun p=>(p.1,(p.2:Int))))) (g2:Qiw W0 LA nk LL) (g3:RdI W0 CA N costs) (hN:N≤1000000000000)
 (hs:∀ (p:Nat) (f:Int) (l:Nat),spots[p]?=some (f,l)→l<nk∧(LL l=[]∨(0≤f∧f.toNat+(LL l).length≤N))) (hL:∀ (l:Nat),l<nk→∀ s∈LL l,0≤s.2.2∧s.2.2≤1152921504606846976) (hC:∀ z∈costs,0≤z∧z≤1152921504606846976) :
 Qtl W0 189 #[.pointer (some ⟨cs,0,none⟩),.pointer (some ⟨cl,0,none⟩),.pointer (some ⟨cc,0,none⟩)] (Qxk costs spots LL) n:=by
 refine ⟨fun args W=>by simp [go_sem],fun W p I c1 c2 c3 c4 hp h0 hst hbl hle=>?_⟩;have hl0:=hle 0 W h0;obtain ⟨f,l,hpf⟩:∃ f l,spots[p]?=some (f,l):=⟨(spots[p]'(by have:=g1.1;simp at this;omega)).1,(spots[p]'(by have:=g1.1;simp at this;omega)).2,by rw [Zg]⟩;obtain ⟨b,o,rfl,s1,s2⟩:=g1.2 p _ (by rw [Yt,hpf];rfl);simp only at s1 s2;obtain ⟨hlk,hfN⟩:=hs p f l hpf;obtain ⟨lb,lo,A,m,c,rfl,q1,q2,q3⟩:=g2 l hlk;have hlen:(LL l).length=m:=by have:=q2.1;simpa [Qpz] using this
 rw [Qzu hpf] at hst ⊢;have k1:=hl0 _ _ h1;have k2:=hl0 _ _ h2;have k4:=hl0 _ _ s1;have k5:=hl0 _ _ s2;have k6:=hl0 _ _ q1;have i1:0≤(p:Int):=Oo
 have i2:(p:Int)<n:=by have:=g1.1;simp at this;omega
 have i3:0≤(l:Int):=Oo
 have i4:(l:Int)<nk:=Oo
 have HLE:=Zh hle;have HST:=Zh hst;have HBL:=Zh hbl;have HG:=Zh (And.intro h3 (And.intro g3 q2));have H0:=Zh h0;have HLN:=Zh hlen;have HLL:=Zh (hL l hlk);have HCC:=Zh hC;obtain ⟨F,hF⟩:=Zx f.toNat;rw [←hF] at HST ⊢
 have hfm:m=0∨(0≤f∧F+m≤N):=by
  rcases hfN with h|h
  {left;rw [←hlen,h];rfl};{right;rw [hF,←hlen];exact h}
 have HFF:=Zh hF;clear hF;clear hle hst hbl hl0 q2 h0 hlen h1 h2 h3 g1 g2 g3 hs hL hC s1 s2 q1 hpf hfN;show Calls prog 189 #[.int .i64 p,.func (.func 186) #[] #[.pointer (some ⟨c1,0,none⟩),.pointer (some ⟨c2,0,none⟩),.pointer (some ⟨c3,0,none⟩),.pointer (some ⟨c4,0,none⟩)],.pointer (some ⟨cs,0,none⟩),.pointer (some ⟨cl,0,none⟩),.pointer (some ⟨cc,0,none⟩)] W _
 go_enter func189,ntmps189
 go_wp2_with fail
 refine wp_region_held_drew (S:=fun V=>V=W.drew) Kf rfl (fun _=>?_);refine tzd 0 16 ?_;refine tzd 4 20 ?_;refine tzb 8 24 ?_;refine Zd ?_;have HI0:=Zh (HBL.o 0 W W.drew H0.o (Zr _ _).drew);clear k1 k2 k4 k5 k6;go_wp2_with fail
 go_loopw [25] (fun q V=>∃ i:Nat,q=.int .i64 i∧i≤m∧I (Qgv costs F ((LL l).take i)).length V) (fun q _=>m-(intOf q).toNat)
 case atStart=>exact ⟨0,by go_num,Nat.zero_le _,HI0.o⟩
 case round =>
  obtain ⟨i,rfl,hin,hI⟩:=hrel;obtain ⟨v8,rfl⟩:=Zx wr;have HI:=Zh hI;by_cases hlt:i<m
  {have hf0:=hfm.resolve_left Oo;(obtain rfl:f=(F:Int):=by have:=HFF.o;omega);(have hfN:=hf0.2;obtain ⟨s,hs⟩:∃ s,(LL l)[i]?=some s:=⟨_,Zg (by rw [HLN.o];exact hlt)⟩;have hle8:=HLE.o _ v8 hI;obtain ⟨sb,so,rfl,s0,s1,s2⟩:=(HG.o.2.2.le hle8).2 i _ (Rar hs);have k3:=hle8 _ _ HG.o.1;obtain ⟨z,hz⟩:∃ z,costs[F+i]?=some z:=⟨_,Zg (by have:=HG.o.2.1.1;omega)⟩;obtain ⟨cb,co,rfl,cz⟩:=(HG.o.2.1.le hle8).2 (F+i) z hz;have hgd:costs.getD (F+i) 0=z:=by rw [Ya,hz];rfl);(have HNT:=Zh (Qqx costs hs F);have HAT:=Zh (toldK_at costs hs F);rw [hgd] at HNT HAT;obtain ⟨z0,z1⟩:=HCC.o z (Zm hz);obtain ⟨d0,d1⟩:=HLL.o s (Zm hs);obtain ⟨to,out,d⟩:=s;simp only at s0 s1 s2 d0 d1 HNT HAT;have j1:0≤(i:Int):=Oo);(have j2:(i:Int)<m:=Oo);(have e1:IntKind.i64.wrap ((F:Int)+i)=((F+i:Nat):Int):=by push_cast;exact IntWalk.i64_in _ Oo);(have e2:IntKind.i64.wrap (d+z)=d+z:=IntWalk.i64_in _ Oo;have j3:((F+i:Nat):Int)<(N:Int):=Oo);(have j4:(0:Int)≤((F+i:Nat):Int):=Oo);(have j5:(F:Int)+i<N:=Oo);(have kk3:=fun ob=>Zc ((Zr v8.heap.size v8).alloc (Zn _) ob) (Zn _) k3);(have kkz:=fun ob=>Zc ((Zr v8.heap.size v8).alloc (Zn _) ob) (Zn _) cz);clear hs hI hz hgd hle8;have hno:¬(z<1152921504606846976∧d<1152921504606846976)→I (Qgv costs F ((LL l).take (i+1))).length (v8.alloc (.cells #[.int .i64 to,.int .i64 out,.int .i64 d] 297)):=fun h=>by{rw [HNT.o,if_neg h,List.append_nil];exact HBL.o _ _ _ HI.o ((Zr _ _).alloc (Zn _) _)};have HNO:=Zh hno;clear hno;by_cases hz1:1152921504606846976≤z;{(go_wp2_with fail);exact Kds};{by_cases hd1:1152921504606846976≤d;{(have hz2:z<1152921504606846976:=Oo);(go_wp2_with fail);exact Kds};{(have hz2:z<1152921504606846976:=Oo);(have hd2:d<1152921504606846976:=Oo);have HT:=Zh (HAT.o ⟨hz2,hd2⟩);have HN:=Zh HNT.o;rw [if_pos ⟨hz2,hd2⟩] at HN;(go_wp2_with fail);(refine Qab ?_;intro w2 hw2);(have hb2:Bw v8 w2:=by rw [hw2];exact Qag);(have HI2:=Zh (HBL.o _ v8 w2 HI.o hb2);clear hw2 hb2;with_reducible refine (HST.o _ _ w2 HT.o HI2.o).mono ?_);rintro e w3 ⟨rfl,hI3⟩;have HI3:=Zh hI3;clear hI3;(go_wp2_with fail);go_roundw;(case rel=>exact ⟨i+1,by go_num,Oo,by rw [HN.o,Yp];exact HI3.o⟩);case measure=>simp [intOf];omega}}};{(obtain rfl:m=i:=Oo);(go_wp2_with fail);go_end0;refine ⟨rfl,?_⟩;have:=HI.o;rw [Ye (by rw [HLN.o];exact Zn _)] at this;exact this}
theorem Qoz (l:List Nat):∀ {a b:Nat},a≤b→(l.take a).sum≤(l.take b).sum:=by
 induction l with
 | nil=>intro a b _;simp
 | cons x t ih =>
  intro a b h
  cases a with
  | zero=>simp
  | succ a =>
   cases b with
   | zero=>omega
   | succ b =>have:=ih (a:=a) (b:=b) Oo;simp only [List.take_succ_cons,List.sum_cons];omega
theorem Qko (row:List Qap){a b:Nat}(h:a≤b):Qfe (row.take a)≤Qfe (row.take b):=by unfold Qfe;rw [List.map_take,List.map_take];exact Qoz _ h
theorem Qkm (gs:List (List Qap)) {a b:Nat} (h:a≤b):Qcy (gs.take a)≤Qcy (gs.take b):=by unfold Qcy;rw [List.map_take,List.map_take];exact Qoz _ h
theorem Ram (row:List Qap)(a:Nat):Qfe (row.take a)≤Qfe row:=by have:=Qko row (a:=a) (b:=max a row.length) Oo;rw [Ye (l:=row) (i:=max a row.length) Oo] at this;exact this
theorem Qkk (gs:List (List Qap)) (a:Nat):Qcy (gs.take a)≤Qcy gs:=by have:=Qkm gs (a:=a) (b:=max a gs.length) Oo;rw [Ye (l:=gs) (i:=max a gs.length) Oo] at this;exact this
def Qim (gs:List (List Qap)) (row:List Qap) (i c:Nat) (x:Qap) (a b:Nat):Nat:=Qcy (gs.take i)+Qfe (row.take c)+(a*x.2.length+b)
theorem Qwy {gs:List (List Qap)} {row:List Qap} {i c a b:Nat} {x:Qap} (hx:row[c]?=some x) (ha:a<x.1.length) (hb:b<x.2.length):Qim gs row i c x a b<Qcy (gs.take i)+Qfe (row.take (c+1)):=by unfold Qim;rw [Qhp hx];have:a*x.2.length+b<szG x:=by{unfold szG;have h1:(a+1)*x.2.length≤x.1.length*x.2.length:=Nat.mul_le_mul_right _ ha;rw [Nat.add_mul,Nat.one_mul] at h1;omega};omega
theorem Qmn {gs:List (List Qap)} {row:List Qap} {i c a b:Nat} {x:Qap} (hr:gs[i]?=some row) (hx:row[c]?=some x) (ha:a<x.1.length) (hb:b<x.2.length):Qim gs row i c x a b<Qcy (gs.take (i+1)):=by have h:=Qwy (gs:=gs) (i:=i) hx ha hb;have h2:=Ram row (c+1);rw [Qho hr];omega
def Que (gs:List (List Qap)) (row:List Qap) (i q:Nat) (y:Qap) (k:Nat):Int:=if y.2.length=0 then -1 else ((Qim gs row i q y k 0:Nat):Int)
structure SpI (N:Qak) (lb:Iz) (gs:List (List Qap)) (i:Nat) (kq:List Nat) (Done:Nat→Nat→Prop) (pl:List Nat) (spots:List (Int×Nat)) (f:Nat→Option Nat):Prop where
 len:spots.length=pl.length
 snd:∀ (p a:Nat),pl[p]?=some a→∃ t q y k,kq[t]?=some q∧(Qaf N.ar lb)[q]?=some y∧y.1[k]?=some (a:Int)∧Done t k∧spots[p]?=some (Que gs (Qaf N.ar lb) i q y k,t)
 all:∀ (t q:Nat) (y:Qap) (k a:Nat),Done t k→kq[t]?=some q→(Qaf N.ar lb)[q]?=some y→y.1[k]?=some (a:Int)→∃ p:Nat,pl[p]?=some a
 map:∀ b p,f b=some p↔pl[p]?=some b
section
variable {N:Qak} {lb:Iz} {gs:List (List Qap)} {i:Nat} {kq:List Nat} {Done:Nat→Nat→Prop} {pl:List Nat} {spots:List (Int×Nat)} {f:Nat→Option Nat}
theorem SpI.new (N:Qak)(lb:Iz) (gs:List (List Qap)) (i:Nat) (kq:List Nat):SpI N lb gs i kq (fun _ _=>False) [] [] (fun _=>none) :=
 ⟨rfl,fun p a h=>by simp at h,fun t q y k a h=>h.elim,fun b p=>by simp⟩
theorem SpI.gone {D':Nat→Nat→Prop}(h:SpI N lb gs i kq Done pl spots f)(hd:∀ t k,Done t k→D' t k) (hd':∀ (t q:Nat) (y:Qap) (k a:Nat),D' t k→kq[t]?=some q→(Qaf N.ar lb)[q]?=some y→y.1[k]?=some (a:Int)→Done t k):SpI N lb gs i kq D' pl spots f :=
 ⟨h.len,fun p a hp=>by
  obtain ⟨t,q,y,k,h1,h2,h3,h4,h5⟩:=h.snd p a hp;exact ⟨t,q,y,k,h1,h2,h3,hd t k h4,h5⟩,fun t q y k a h1 h2 h3 h4=>h.all t q y k a (hd' t q y k a h1 h2 h3 h4) h2 h3 h4,h.map⟩
theorem SpI.free (h:SpI N lb gs i kq Done pl spots f)(hnd:kq.Nodup){t q k a:Nat}{y:Qap} (h1:kq[t]?=some q) (h2:(Qaf N.ar lb)[q]?=some y) (h3:y.1[k]?=some (a:Int)) (hno:¬Done t k):f a=none:=by
 cases hf:f a with
 | none=>rfl
 | some p =>
  obtain ⟨t',q',y',k',g1,g2,g3,g4,_⟩:=h.snd p a ((h.map a p).1 hf);obtain ⟨z,hz,_,e1⟩:=(Qef h2).1 (Zm h3);obtain ⟨z',hz',_,e2⟩:=(Qef g2).1 (Zm g3);rw [hz] at hz';cases hz';have hq:q'=q:=Oo
  subst hq;rw [h2] at g2;cases g2;have ht:t'=t:=(List.getElem?_inj (Zs g1).1 hnd).1 (g1.trans h1.symm);subst ht;have hk:=Qsj (Qhg h2) g3 h3;subst hk;exact absurd g4 hno
theorem SpI.push (h:SpI N lb gs i kq Done pl spots f){t q k a:Nat}{y:Qap} (h1:kq[t]?=some q) (h2:(Qaf N.ar lb)[q]?=some y) (h3:y.1[k]?=some (a:Int)) (hf:f a=none) :
 SpI N lb gs i kq (fun t' k'=>Done t' k'∨(t'=t∧k'=k)) (pl ++[a]) (spots ++[(Que gs (Qaf N.ar lb) i q y k,t)]) (fun b=>if b=a then some pl.length else f b):=by have hl:=h.len;refine ⟨by simp [hl],fun p b hp=>?_,fun t' q' y' k' b hd e1 e2 e3=>?_,fun b p=>?_⟩;{(rcases Nat.lt_or_ge p pl.length with hlt|hge);{rw [Yc hlt] at hp;obtain ⟨t',q',y',k',g1,g2,g3,g4,g5⟩:=h.snd p b hp;exact ⟨t',q',y',k',g1,g2,g3,.inl g4,by rw [Yc Oo];exact g5⟩};{rw [Yb hge] at hp;(have h0:p-pl.length=0:=by have:=(Zs hp).1;simpa using this);rw [h0] at hp;cases hp;refine ⟨t,q,y,k,h1,h2,h3,.inr ⟨rfl,rfl⟩,?_⟩;rw [Yb Oo,show p-spots.length=0 by omega];rfl}};{(rcases hd with hd|⟨rfl,rfl⟩);{obtain ⟨p,hp⟩:=h.all t' q' y' k' b hd e1 e2 e3;exact ⟨p,by rw [Yc (Zs hp).1];exact hp⟩};{rw [h1] at e1;cases e1;rw [h2] at e2;cases e2;(rw [h3] at e3;have:a=b:=by have:=Yv e3;omega);subst this;exact ⟨pl.length,by rw [Yb (Zn _),Yy];rfl⟩}};{by_cases e:b=a;{subst e;simp only [if_pos];constructor;{intro e2;injection e2 with e2;subst e2;rw [Yb (Zn _),Yy];rfl};{intro e2;(rcases Nat.lt_or_ge p pl.length with hlt|hge);{rw [Yc hlt] at e2;have:=(h.map b p).2 e2;rw [hf] at this;cases this};{rw [Yb hge] at e2;(have h0:p-pl.length=0:=by have:=(Zs e2).1;simpa using this);rw [show p=pl.length by omega]}}};{simp only [if_neg e];rw [h.map];(rcases Nat.lt_or_ge p pl.length with hlt|hge);{rw [Yc hlt]};{rw [Yb hge,Yd hge];constructor;{intro h;cases h};{intro h;(have h0:p-pl.length=0:=by have:=(Zs h).1;simpa using this);rw [h0] at h;(injection h with h);exact absurd h.symm e}}}}
theorem SpI.nodup (h:SpI N lb gs i kq Done pl spots f):pl.Nodup:=by
 rw [List.Nodup,List.pairwise_iff_getElem];intro i j hi hj hij e;have h1:=(h.map (pl[i]) i).2 (Zg hi);have h2:=(h.map (pl[i]) j).2 (by rw [Zg hj,e]);rw [h1] at h2;injection h2 with h2
 omega
theorem SpI.le (h:SpI N lb gs i kq Done pl spots f):pl.length≤N.ar.length :=
 Qmu N.ar.length pl h.nodup (fun a ha=>by
  obtain ⟨p,hp⟩:=Yr ha;obtain ⟨t,q,y,k,_,h2,h3,_,_⟩:=h.snd p a hp;obtain ⟨z,hz,_⟩:=(Qef h2).1 (Zm h3);exact (Zs hz).1)
end
def Qsp (N:Qak)(x:Qap)(f:Nat→Option Nat)(m:Nat):Stp :=
 if 0≤plI x.2 (m:Int) then (0,plI x.2 (m:Int),0) else ((f m).getD 0,plI x.2 (m:Int),if (f m).isSome then wV N m else 1152921504606846976)
structure LstI (N:Qak) (lb:Iz) (x:Qap) (kq:List Nat) (f:Nat→Option Nat) (LL:Nat→List Stp):Prop where
 len:∀ (t q:Nat) (y:Qap),kq[t]?=some q→(Qaf N.ar lb)[q]?=some y→(LL t).length=y.2.length
 at_:∀ (t q:Nat) (y:Qap) (j m:Nat),kq[t]?=some q→(Qaf N.ar lb)[q]?=some y→y.2[j]?=some (m:Int)→(LL t)[j]?=some (Qsp N x f m)
theorem Qfu {N:Qak}{l:Iz}{c:Nat}{x:Qap} (hx:(Qaf N.ar l)[c]?=some x) {j:Nat} {z:Int} (h:x.2[j]?=some z):∃ m:Nat,z=(m:Int):=by obtain ⟨⟨a,t,e,_⟩,_⟩:=(fun h:z∈Qbn N.ar l∧_=>(⟨Qhm.1 h.1,h.2⟩:_∧_)) ((Qux hx).1 (Zm h));exact ⟨a,e⟩
theorem Qjy {N:Qak}{l:Iz}{c:Nat}{x:Qap} (hx:(Qaf N.ar l)[c]?=some x) {j:Nat} {z:Int} (h:x.1[j]?=some z):∃ m:Nat,z=(m:Int):=by obtain ⟨⟨a,t,e,_⟩,_⟩:=(fun h:z∈Qbn N.ar l∧_=>(⟨Qhm.1 h.1,h.2⟩:_∧_)) ((Qoc hx).1 (Zm h));exact ⟨a,e⟩
theorem Qyz.of {N:Qak}(hok:Qar N) {ls:Lz} {l lb:Iz} {i c:Nat} {x:Qap} {kq pl:List Nat} {spots:List (Int×Nat)} {f:Nat→Option Nat} {LL:Nat→List Stp} {costs:Iz} (hP:Qbt N.vs.length ls) (hl:ls[i+1]?=some l) (hb:ls[i]?=some lb)
 (hx:(Qaf N.ar l)[c]?=some x) (hkq:nis kq=Qdk l lb (c:Int) N.vs.length) (hS:SpI N lb (Qah N.ar ls) i kq (fun _ _=>True) pl spots f) (hL:LstI N lb x kq f LL)
 (hE:∀ (q:Nat) (y:Qap) (a b s t:Nat),(Qaf N.ar lb)[q]?=some y→y.1[a]?=some (s:Int)→y.2[b]?=some (t:Int)→Qhc N (Qgd lb q) s t (costs.getD (Qim (Qah N.ar ls) (Qaf N.ar lb) i q y a b) 0)) :
 Qyz N l lb c x pl (Qxk costs spots LL):=by
 have hLv:=hP.lvl l (Zm hl);have hBv:=hP.lvl lb (Zm hb);have hmem:∀ q:Nat,q∈kq↔∃ v:Nat,l[v]?=some (c:Int)∧lb[v]?=some (q:Int):=fun q=>by rw [Qsi hkq,Qld hLv.len hBv.len]
 have hnest:=hP.nest i lb l hb hl;have hin:∀ (q a:Nat) (z:Tri),q∈kq→N.ar[a]?=some z→Qad lb z.2.1=(q:Int)→Qad l z.2.1=c:=fun q a z hq hz e=>by{obtain ⟨v,h1,h2⟩:=(hmem q).1 hq;have hvn:=(Zs h1).1;rw [hLv.len] at hvn;have ho:=hok.arcs z (Zm hz);have o0:=ho.g0;have o1:=ho.g1;obtain ⟨u,hu⟩:∃ u:Nat,z.2.1=(u:Int):=⟨z.2.1.toNat,Oo⟩;rw [hu] at e ⊢;have e2:=Qcf h2;have e3:=Qcf h1;apply Classical.byContradiction;intro hne;exact Qgh (u:=u) (v:=v) hnest hLv.len hBv.len Oo hvn (by rw [e3];exact hne) (by rw [e,e2])};have hat:∀ a∈pl,Qff N l lb c a:=fun a ha=>by{obtain ⟨p,hp⟩:=Yr ha;obtain ⟨t,q,y,k,h1,h2,h3,_,_⟩:=hS.snd p a hp;obtain ⟨z,hz,k1,k2⟩:=(Qef h2).1 (Zm h3);exact ⟨z,hz,by rw [k2];exact k1,hin q a z (Zm h1) hz k2⟩};have hall:∀ a,Qff N l lb c a→∃ p:Nat,pl[p]?=some a:=fun a ⟨z,hz,k1,k2⟩=>by{have ho:=hok.arcs z (Zm hz);have o0:=ho.g0;have o1:=ho.g1;obtain ⟨u,hu⟩:∃ u:Nat,z.2.1=(u:Int):=⟨z.2.1.toNat,Oo⟩;have e1:=Qds (l:=lb) (v:=u) (by rw [hBv.len];omega);have e2:=Qds (l:=l) (v:=u) (by rw [hLv.len];omega);obtain ⟨q,hq,y,hy⟩:=Qky (ar:=N.ar) hBv (Zm e1);rw [hu] at k1 k2;rw [k2] at e2;rw [hq] at e1;obtain ⟨t,ht⟩:=Yr ((hmem q).2 ⟨u,e2,e1⟩);have ha:(a:Int)∈y.1:=(Qef hy).2 ⟨z,hz,by rw [←hq];exact k1,by rw [hu];exact hq⟩;obtain ⟨k,hk⟩:=Yr ha;exact hS.all t q y k a trivial ht hy hk};have hrawAt:∀ (p a:Nat),pl[p]?=some a→∃ (t q:Nat) (y:Qap) (k:Nat) (z:Tri),kq[t]?=some q∧(Qaf N.ar lb)[q]?=some y∧y.1[k]?=some (a:Int)∧N.ar[a]?=some z∧Qad lb z.1≠Qad lb z.2.1∧Qad lb z.2.1=(q:Int)∧Qxk costs spots LL p=Qgv costs (Que (Qah N.ar ls) (Qaf N.ar lb) i q y k).toNat (LL t):=fun p a hp=>by{obtain ⟨t,q,y,k,h1,h2,h3,_,h5⟩:=hS.snd p a hp;obtain ⟨z,hz,k1,k2⟩:=(Qef h2).1 (Zm h3);exact ⟨t,q,y,k,z,h1,h2,h3,hz,by rw [k2];exact k1,k2,Qzu h5⟩};have hfr:∀ (q:Nat) (y:Qap) (k j:Nat) (z:Int),y.2[j]?=some z→(Que (Qah N.ar ls) (Qaf N.ar lb) i q y k).toNat+j=Qim (Qah N.ar ls) (Qaf N.ar lb) i q y k j:=fun q y k j z hz=>by{have hj:=(Zs hz).1;unfold Que;rw [if_neg Oo,Yl];unfold Qim;omega};have hsome:∀ (q m:Nat) (z:Tri),q∈kq→N.ar[m]?=some z→Qad lb z.1=(q:Int)→Qad lb z.2.1≠(q:Int)→(m:Int) ∉ x.2→∃ p,f m=some p:=fun q m z hq hz e1 e2 hm=>by{have hto:Qad l z.2.1=c:=by{apply Classical.byContradiction;intro hne;refine hm ((Qcn hx).2 ⟨z,hz,?_,hne⟩);obtain ⟨v,g1,g2⟩:=(hmem q).1 hq;have hvn:=(Zs g1).1;rw [hLv.len] at hvn;have ho:=hok.arcs z (Zm hz);have o0:=ho.f0;have o1:=ho.f1;obtain ⟨u,hu⟩:∃ u:Nat,z.1=(u:Int):=⟨z.1.toNat,Oo⟩;rw [hu] at e1 ⊢;have e3:=Qcf g2;have e4:=Qcf g1;apply Classical.byContradiction;intro hne2;exact Qgh (u:=u) (v:=v) hnest hLv.len hBv.len Oo hvn (by rw [e4];exact hne2) (by rw [e1,e3])};obtain ⟨p,hp⟩:=hall m ⟨z,hz,fun e=>e2 (by rw [←e];exact e1),hto⟩;exact ⟨p,(hS.map m p).2 hp⟩};refine ⟨hat,hall,hS.nodup,fun p a hp s hs=>?_,fun p a m v k hp hK hv hk=>?_,fun p a m v hp hK hv hm hw=>?_⟩;{obtain ⟨t,q,y,k,z,h1,h2,h3,hz,k1,k2,hL'⟩:=hrawAt p a hp;rw [hL'] at hs;obtain ⟨j,r,hj,hc1,hc2,rfl⟩:=(Qke costs).1 hs;obtain ⟨zm,hzm⟩:∃ zm,y.2[j]?=some zm:=⟨_,Zg (by rw [←hL.len t q y h1 h2];exact (Zs hj).1)⟩;obtain ⟨m,rfl⟩:=Qfu h2 hzm;have hr:=hL.at_ t q y j m h1 h2 hzm;rw [hj] at hr;cases hr;rw [hfr q y k j _ hzm] at hc1 ⊢;have hEE:=hE q y k j a m h2 h3 hzm;obtain ⟨zz,hzz,j1,j2⟩:=(Qcn h2).1 (Zm hzm);refine ⟨m,_,⟨z,zz,hz,hzz,k1,by rw [k2];exact j1,by rw [k2];exact j2,by rw [k2];exact hEE⟩,Oo,?_⟩;by_cases hm:(m:Int)∈x.2;{obtain ⟨k',e1,e2⟩:=Qsm hm;(left);refine ⟨k',e2,?_,?_⟩;{unfold Qsp;rw [e1,if_pos Oo]};{unfold Qsp;rw [e1,if_pos Oo];simp}};{(right);(obtain ⟨p',hp'⟩:=hsome q m zz (Zm h1) hzz j1 j2 hm;have e0:Qsp N x f m=(p',-1,wV N m):=by unfold Qsp;rw [Qdn hm,if_neg Oo,hp'];rfl);rw [e0] at hc2 ⊢;exact ⟨hm,by simp only at hc2;omega,(by decide:(-1:Int)<0),(hS.map m p').1 hp',Sn⟩}};{obtain ⟨t,q,y,k',z,h1,h2,h3,hz,k1,k2,hL'⟩:=hrawAt p a hp;obtain ⟨z',zm,hz',hzm,j1,j2,j3,j4⟩:=hK;rw [hz] at hz';cases hz';(rw [k2] at j2 j3 j4;obtain ⟨j,hj⟩:=Yr ((Qcn h2).2 ⟨zm,hzm,j2,j3⟩);have hEE:=hE q y k' j a m h2 h3 hj;have hv':=Lst.uniq j4 hEE;have hb:=j4.bd hok;have e0:Qsp N x f m=(0,(k:Int),0):=by unfold Qsp;rw [Qfy (Qhh hx) hk,if_pos Oo]);refine ⟨(0,(k:Int),v),?_,rfl,rfl⟩;rw [hL'];refine (Qke costs).2 ⟨j,_,hL.at_ t q y j m h1 h2 hj,?_,?_,?_⟩;{rw [hfr q y k' j _ hj,←hv'];omega};{rw [e0];simp only;omega};{rw [e0,hfr q y k' j _ hj,←hv'];simp}};{obtain ⟨t,q,y,k',z,h1,h2,h3,hz,k1,k2,hL'⟩:=hrawAt p a hp;obtain ⟨z',zm,hz',hzm,j1,j2,j3,j4⟩:=hK;rw [hz] at hz';cases hz';(rw [k2] at j2 j3 j4;obtain ⟨j,hj⟩:=Yr ((Qcn h2).2 ⟨zm,hzm,j2,j3⟩);have hEE:=hE q y k' j a m h2 h3 hj;have hv':=Lst.uniq j4 hEE;have hb:=j4.bd hok;obtain ⟨p',hp'⟩:=hsome q m zm (Zm h1) hzm j2 j3 hm;have e0:Qsp N x f m=(p',-1,wV N m):=by unfold Qsp;rw [Qdn hm,if_neg Oo,hp'];rfl);have hwb:=(Qei (hok.arcs zm (Zm hzm)).w).resolve_left (by rw [←(Qbw hzm).2.2];exact hw);rw [←(Qbw hzm).2.2] at hwb;refine ⟨(p',-1,wV N m+v),?_,(by decide:(-1:Int)<0),(hS.map m p').1 hp',Sn⟩;rw [hL'];refine (Qke costs).2 ⟨j,_,hL.at_ t q y j m h1 h2 hj,?_,?_,?_⟩;{rw [hfr q y k' j _ hj,←hv'];omega};{rw [e0];simp only;omega};{rw [e0,hfr q y k' j _ hj,←hv']}}
open Go.Maps
theorem Qjc:Keyed prog 3:=int_keyed underlying3
theorem Qrz (w:World):(zeroValue 3).run prog w=.ok (.int .i64 0) w:=Kf
def MpI (W:World)(b n:Nat)(f:Nat→Option Nat):Prop :=
 ∃ D:DataW Unit,W.ownsMap prog 3 (plainElem prog 3) b n D∧IsMap D∧∀ k:Nat,k≤1000000000000→Maps.has D (.int .i64 k)=(f k).isSome∧∀ v,f k=some v→∀ z,D.atKey (.int .i64 k) z=.lit (.int .i64 v)
theorem MpI.new (w:World):MpI (w.alloc (.map #[] 0)) w.heap.size 0 (fun _=>none) :=
 ⟨.map [],World.ownsMap_made _ _ _ _,isMap_empty,fun k _=>⟨rfl,fun v h=>by cases h⟩⟩
theorem MpI.new' (w:World){g:Nat}(h:g=w.heap.size):MpI (w.alloc (.map #[] 0)) g 0 (fun _=>none):=by subst h;exact MpI.new w
theorem MpI.lt {W:World}{b n:Nat}{f:Nat→Option Nat}(h:MpI W b n f):b<W.heap.size:=by obtain ⟨D,h1,_⟩:=h;exact h1.lt
theorem MpI.grown {W W':World}{b n:Nat}{f:Nat→Option Nat}{r:Option Nat}(h:MpI W b n f)(hg:W.grownBy W' r)(hr:r≠some b):MpI W' b n f:=by obtain ⟨D,h1,h2⟩:=h;exact ⟨D,h1.kept hg (fun e=>hr e.symm),h2⟩
theorem MpI.below {W W':World}{b n:Nat}{f:Nat→Option Nat}(h:MpI W b n f)(hb:Bw W W'):MpI W' b n f:=h.grown ⟨hb.os,hb.tape,hb.output,hb.size,fun k hk _=>hb.block k hk⟩ (r:=none) Sm
theorem MpI.set {W:World}{b n g i:Nat}{f:Nat→Option Nat}(h:MpI W b n f)(hg:g≠b)(v:Value):MpI (W.setCell ⟨g,i,none⟩ v) b n f:=h.grown (Qac _ _ _ _) (fun e=>hg (by injection e))
theorem Qql {k q:Nat}(h:q≠k):(Lit.int .i64 (q:Int))≠Lit.int .i64 (k:Int):=fun e=>by
 injection e with _ e
 exact h Oo
theorem Qla {k:Nat}(hk:k≤1000000000000):keyOf prog 3 (.int .i64 (k:Int))=some (.int .i64 (k:Int)):=keyOf_int_mk underlying3 (WalkArith.wf_i64 Oo)
section
variable {w:World} {ops:Array Oper} {rest:List Oper} {o:Oper} {a:Act} {Q:Exit→Act→World→Prop} {b n:Nat} {f:Nat→Option Nat}
theorem Qpk (hg:o.guard=none)(m x v:Operand)(hop:o.op=Op.mapUpdate 226 m x v)(k u:Nat) (hm:a.eval m=.map (some b)) (h:MpI w b n f) (hn:n≤1000000000) (hx:a.eval x=.int .i64 k) (hv:a.eval v=.int .i64 u) (hk:k≤1000000000000) (hu:u≤1000000000000)
 (hK:∀ w',MpI w' b (n+1) (fun q=>if q=k then some u else f q)→w.grownBy w' (some b)→wpList prog ops Q rest (a.put o.dst undef) w'):wpList prog ops Q (o::rest) a w:=by
 obtain ⟨D,h1,h2,h3⟩:=h;refine wpList_mapUpdate_own w hg m x v 226 hop 3 3 Qjc underlying226 _ b n D hm h1 (by unfold maxLen;omega) _ _ _ hx hv (Qla hk) _ [] (plainElem_int underlying3 (WalkArith.wf_i64 Oo)) (fun w' g1 g2=>hK w' ⟨_,g1,h2.put _ _,fun q hq=>?_⟩ g2);have hkl:WideAt.IsKeyLit (Lit.int .i64 (k:Int)):=by simp [WideAt.IsKeyLit]
 by_cases e:q=k;{subst e;exact Kbz};{simp only [if_neg e];refine ⟨(has_put_other (Qql e) _).trans (h3 q hq).1,fun v e2 z=>(atKey_put_other (Qql e) _ _).trans ((h3 q hq).2 v e2 z)⟩}
theorem Qik (hg:o.guard=none)(m x:Operand)(hop:o.op=Op.lookup 226 m x true)(k:Nat) (hm:a.eval m=.map (some b)) (h:MpI w b n f) (hx:a.eval x=.int .i64 k) (hk:k≤1000000000000)
 (hK:wpList prog ops Q rest (a.put o.dst (.tuple #[.int .i64 (((f k).getD 0:Nat):Int),.bool (f k).isSome])) w):wpList prog ops Q (o::rest) a w:=by
 obtain ⟨D,h1,h2,h3⟩:=h;refine wpList_lookup_own_ok_int w hg m x 226 hop 3 3 .i64 Qjc underlying226 underlying3 (Qrz w) b n D hm h1 _ _ hx (Qla hk) (fun c hc _=>?_);obtain ⟨g1,g2⟩:=h3 k hk;rw [g1]
 have:c=(((f k).getD 0:Nat):Int):=by
  cases hf:f k with
  | none =>rw [hf] at g1;rw [atKey_of_not_has g1] at hc;(injection hc with hc);(injection hc with _ hc);exact hc.symm
  | some v =>rw [g2 v hf] at hc;(injection hc with hc);(injection hc with _ hc);exact hc.symm
 rw [this];exact hK
theorem wpMap_at (hg:o.guard=none)(m x:Operand)(hop:o.op=Op.lookup 226 m x false)(k v:Nat) (hm:a.eval m=.map (some b)) (h:MpI w b n f) (hx:a.eval x=.int .i64 k) (hk:k≤1000000000000) (hf:f k=some v)
 (hK:wpList prog ops Q rest (a.put o.dst (.int .i64 (v:Int))) w):wpList prog ops Q (o::rest) a w:=by
 obtain ⟨D,h1,h2,h3⟩:=h;refine wpList_lookup_own_int w hg m x 226 hop 3 3 .i64 Qjc underlying226 underlying3 (Qrz w) b n D hm h1 _ _ hx (Qla hk) (fun c hc _=>?_);rw [(h3 k hk).2 v hf] at hc;injection hc with hc
 injection hc with _ hc
 rw [←hc];exact hK
end
end Go.Proofs.YtkaaakbejnlbgaaGreatDoor
namespace Go.Proofs.YtkaaakbejnlbgaaGreatDoor
open Go.RowKit Go.Proofs.Tryz
attribute [local go_sem ↓] Go.wp_at_zero Go.wp_at_succ
theorem RdI.lit {w:World}{g:Nat}{t:TypeId}(l:Iz) (h:Blk w g t (Qae l).toArray):RdI w (some ⟨g,0,none⟩) l.length l:=by refine ⟨rfl,fun i x hx=>⟨g,0,rfl,?_⟩⟩;rw [h.cell];simp [Qae,hx]
theorem Rd3.lit {w:World}{g:Nat}{t:TypeId}(l:List Tri) (h:Blk w g t (Qbb l).toArray):Rd3 w (some ⟨g,0,none⟩) l.length l:=by refine Rds.rd3 ⟨Qii l,fun i x hx=>⟨g,0,rfl,?_⟩⟩;rw [h.cell];simpa using hx
theorem Qce {P:Program}{f:Func}{Q:Ending→World→Prop}{x:Exit}{a:Act}{w:World}(h:∀ W,W=w→bodyPost P f Q x a W):bodyPost P f Q x a w:=h w rfl
