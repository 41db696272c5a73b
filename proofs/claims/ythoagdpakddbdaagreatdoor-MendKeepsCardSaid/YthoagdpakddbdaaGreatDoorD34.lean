/- Parts of the proof: MdB, Kq, Kr, MdV. -/
import Derived.Test.YthoagdpakddbdaaGreatDoorD1
import Derived.Test.YthoagdpakddbdaaGreatDoorD16
import Derived.Test.YthoagdpakddbdaaGreatDoorD19
import Derived.Test.YthoagdpakddbdaaGreatDoorD23
import Derived.Test.YthoagdpakddbdaaGreatDoorD25
import Derived.Test.YthoagdpakddbdaaGreatDoorD30
import Derived.Test.YthoagdpakddbdaaGreatDoorD33
namespace Go.Proofs.YthoagdpakddbdaaGreatDoor
open Go.RowKit Go.Proofs.Tryz
attribute [local go_sem ↓] Go.wp_at_zero Go.wp_at_succ
set_option maxHeartbeats 1000000 in
theorem Qip (A B:Option Addr)(n c d:Nat) (l:List (List Bool)) (w:World) (h:RdQ w A n l) (h2:RdQ w B n l) (hn:n≤1000000) (hc:∀ r∈l,r.length≤1000000) :
 Calls prog 15 #[.slice A n c,.slice B n d] w fun e w'=>e=.returned (.bool true)∧Below w.heap.size w w':=by
 have HT:=Zh h;have HT2:=Zh h2;have HC:=Zh hc;have e0:((n:Int) != (n:Int))=false:=by simp
 clear h h2 hc
 go_enter func15,ntmps15
 go_wp2_with fail
 go_loopw [5] (fun q W=>Below w.heap.size w W∧∃ i:Nat,i≤n∧q=.int .i64 (i:Int)) (fun q _=>n-(intOf q).toNat)
 case atStart=>exact ⟨Zr _ _,0,Nat.zero_le _,rfl⟩
 case round =>
  obtain ⟨hbl,i,hi,rfl⟩:=hrel
  by_cases hlt:i<n
  · obtain ⟨b,o,A1,n1,c1,r,rfl,hl,hcl,hr,_,_⟩:=(HT.out.below hbl).at_ hlt
    obtain ⟨b2,o2,A2,n2,c2,r2,rfl,hl2,hcl2,hr2,_,_⟩:=(HT2.out.below hbl).at_ hlt;rw [hl] at hl2
    cases hl2
    have hnn:n2=n1:=by rw [←hr.1,←hr2.1]
    subst hnn;have hn2:n2≤1000000000:=by have:=HC.out r (Zm hl);have:=hr.1;omega
    have HSI:=Zh (show ∀ V,Below wr.heap.size wr V→Calls prog 45 #[.slice A1 n2 c1,.slice A2 n2 c2] V fun e w'=>e=.returned (.bool true)∧∃ k,w'=V.drewN k from fun V hV=>Qng A1 A2 n2 n2 c1 c2 r r V (hr.below hV) (hr2.below hV) hn2 rfl)
    have i1:(0:Int)≤(i:Int):=by omega
    have i2:(i:Int)<(n:Int):=by omega
    clear hr hr2 hl
    go_wp2_with fail
    go_quiet ((go_at_call 45;exact Qqd (HSI.out _ Qae)))
    go_wp2_with fail
    go_roundw
    case rel=>exact ⟨Qas hbl _,i+1,by omega,by go_num⟩
    case measure=>simp [intOf];omega
  · obtain rfl:n=i:=by omega
    go_wp2_with fail
    go_ret
    exact ⟨rfl,hbl⟩
set_option maxHeartbeats 1000000 in
theorem Qtm (A:Option Addr)(n c:Nat) (l:List (List Bool)) (w:World) (h:RdQ w A n l) (hn:n≤1000000) (hc:∀ r∈l,r.length≤1000000) :
 Calls prog 26 #[.slice A n c] w fun e w'=>e=.returned (.int .i64 ((Qeq l:Nat):Int))∧w=w':=by
 have HT:=Zh h;have HC:=Zh hc;have HN:=Zh h.1;clear h hc
 go_enter func26,ntmps26
 go_wp2_with fail
 go_loopw [3,4] (fun z q W=>w=W∧∃ i k:Nat,i≤n∧q=.int .i64 (i:Int)∧z=.int .i64 (k:Int)∧k≤1000000*i∧k=Qeq (l.take i)) (fun _ q _=>n-(intOf q).toNat)
 case atStart=>exact ⟨rfl,0,0,Nat.zero_le _,rfl,rfl,by omega,by simp [Qeq]⟩
 case round =>
  obtain ⟨rfl,i,k,hi,rfl,rfl,hk1,hk⟩:=hrel;have HK:=Zh hk;clear hk
  by_cases hlt:i<n
  rotate_left
  · obtain rfl:i=n:=by omega
    have i3:¬((i:Int)<(i:Int)):=by omega
    go_wp2_with fail
    go_ret
    have e:=HK.out;rw [List.take_of_length_le (by rw [HN.out];exact Zn _)] at e;exact ⟨Qbu (by rw [e]),rfl⟩
  obtain ⟨b,o,A1,n1,c1,r,rfl,hl,hcl,hr,_,_⟩:=HT.out.at_ hlt;have hr6:=HC.out r (Zm hl);have hrn:=hr.1;rw [hrn] at hr6;have HR:=Zh hr;have HRN:=Zh hrn;have HX:=Zh (Qpk hl);have i1:(0:Int)≤(i:Int):=by omega
  have i2:(i:Int)<(n:Int):=by omega
  clear hr hl hrn
  go_wp2_with fail
  go_loopw [3,5] (fun z q W=>w=W∧∃ j k:Nat,j≤n1∧q=.int .i64 (j:Int)∧z=.int .i64 (k:Int)∧k≤1000000*i+j∧k=Qeq (l.take i)+Qlh (r.take j)) (fun _ q _=>n1-(intOf q).toNat)
  case atStart=>exact ⟨rfl,0,k,Nat.zero_le _,rfl,rfl,by omega,by rw [HK.out];simp [Qlh]⟩
  case round =>
   clear HK hk1;obtain ⟨rfl,j,k,hj,rfl,rfl,hk1,hk⟩:=hrel;have HK:=Zh hk;clear hk
   by_cases hlt2:j<n1
   rotate_left
   · obtain rfl:j=n1:=by omega
     have i3:¬((j:Int)<(j:Int)):=by omega
     have HK2:=Zh (show k=Qeq (l.take (i+1)) by rw [HX.out,HK.out,List.take_of_length_le (l:=r) (by rw [HRN.out];exact Zn _)])
     go_wp2_with fail
     go_roundw
     case rel=>exact ⟨by first|rfl|trivial,i+1,k,by omega,by go_num,rfl,by omega,HK2.out⟩
     case measure=>simp [intOf];omega
   obtain ⟨b3,o3,y,rfl,hy,cy⟩:=HR.out.at_ hlt2;have HY:=Zh (Qok hy);have j1:(0:Int)≤(j:Int):=by omega
   have j2:(j:Int)<(n1:Int):=by omega
   clear hy
   cases y with
   | true =>
    have HK2:=Zh (show k+1=Qeq (l.take i)+Qlh (r.take (j+1)) by rw [HY.out,HK.out];simp;omega)
    go_wp2_with fail
    go_roundw
    case rel=>exact ⟨by first|rfl|trivial,j+1,k+1,by omega,by go_num,by go_num,by omega,HK2.out⟩
    case measure=>simp [intOf];omega
   | false =>
    have HK2:=Zh (show k=Qeq (l.take i)+Qlh (r.take (j+1)) by rw [HY.out,HK.out];simp)
    go_wp2_with fail
    go_roundw
    case rel=>exact ⟨by first|rfl|trivial,j+1,k,by omega,by go_num,rfl,by omega,HK2.out⟩
    case measure=>simp [intOf];omega
def Quy (b:Nat)(r:List Bool):Value:=.slice (some ⟨b,0,none⟩) r.length r.length
theorem rcel_one (b:Nat)(r:List Bool):∀ u∈[Quy b r],u.oneCell'=true:=Qcd _ _ _
structure TlO (W:World) (B:Nat) (A:Option Addr) (n cp:Nat) (bs:List Nat) (rows:List (List Bool)):Prop where
 own:Own W B 80 1 A n cp (List.zipWith Quy bs rows)
 n1:bs.length=n
 n2:rows.length=n
 row:∀ (i b:Nat) (r:List Bool),bs[i]?=some b→rows[i]?=some r→Blk W b 4 (Qco r)
 blo:∀ b∈bs,B≤b∧Qab A≠some b
 nd:bs.Nodup
section
variable {W W':World} {B n cp:Nat} {A:Option Addr} {bs:List Nat} {rows:List (List Bool)}
theorem TlO.start (W:World)(B:Nat):TlO W B none 0 0 [] []:=⟨Own.nil _ _ _ _,rfl,rfl,fun i b r h=>by simp at h,fun b h=>by simp at h,by simp⟩
theorem TlO.get (h:TlO W B A n cp bs rows){i:Nat}{r:List Bool} (hr:rows[i]?=some r):∃ b,bs[i]?=some b∧Blk W b 4 (Qco r)∧B≤b∧Qab A≠some b∧∃ ab ao,A=some ⟨ab,ao,none⟩∧W.cell? ⟨ab,ao+i,none⟩=some (Quy b r):=by
 have hi:=(Zs hr).1;obtain ⟨b,hb⟩:∃ b,bs[i]?=some b:=⟨_,Zg (by rw [h.n1,←h.n2];exact hi)⟩;have h1:=h.blo b (Zm hb);obtain ⟨ab,ao,e,hc⟩:=h.own.rds.2 i (Quy b r) (by rw [List.getElem?_zipWith,hb,hr]);exact ⟨b,hb,h.row i b r hb hr,h1.1,h1.2,ab,ao,e,hc⟩
theorem TlO.below (h:TlO W B A n cp bs rows)(hb:Below W.heap.size W W'):TlO W' B A n cp bs rows :=
 ⟨h.own.below hb,h.n1,h.n2,fun i b r h1 h2=>(h.row i b r h1 h2).below hb (h.row i b r h1 h2).lt,h.blo,h.nd⟩
theorem TlO.rdQ (h:TlO W B A n cp bs rows)(hl:∀ r∈rows,r.length≤9223372036854775807):RdQ W A n rows :=
 ⟨h.n2,fun i r hr=>by
  obtain ⟨b,_,h2,_,_,ab,ao,e,hc⟩:=h.get hr;exact ⟨ab,ao,_,r.length,r.length,e,hc,h2.rdB rfl,Zn _,hl r (Zm hr)⟩⟩
theorem TlO.lt (h:TlO W B A n cp bs rows):∀ b∈bs,b<W.heap.size:=fun b hb=>by
 obtain ⟨i,hi⟩:=List.getElem?_of_mem hb;obtain ⟨q,hq⟩:∃ q,rows[i]?=some q:=⟨_,Zg (by rw [h.n2,←h.n1];exact (Zs hi).1)⟩;exact (h.row i b q hi hq).lt
theorem TlO.push {A':Option Addr}{c' rb:Nat}{r:List Bool}(h:TlO W B A n cp bs rows) (hr:Blk W rb 4 (Qco r)) (hB:B≤rb) (hnb:∀ b∈bs,b≠rb) (hnA:Qab A≠some rb)
 (hown:Own W' B 80 1 A' (n+1) c' (List.zipWith Quy bs rows ++[Quy rb r])) (hg:W.grownBy W' (Qab A)) (hat:Qab A'=Qab A∨Qab A'=some W.heap.size):TlO W' B A' (n+1) c' (bs ++[rb]) (rows ++[r]):=by
 have hbl:=h.lt
 have hA':∀ b,b<W.heap.size→Qab A≠some b→Qab A'≠some b:=fun b h1 h2 e=>by
  rcases hat with hat|hat
  · exact h2 (hat▸e)
  · rw [hat] at e
    injection e with e
    omega
 refine ⟨by rw [List.zipWith_append (by rw [h.n1,h.n2])];exact hown,by simp [h.n1],by simp [h.n2],fun i b q h1 h2=>?_,fun b hb=>?_,?_⟩
 · rcases Nat.lt_trichotomy i n with e|e|e
   · rw [List.getElem?_append_left (by rw [h.n1];exact e)] at h1
     rw [List.getElem?_append_left (by rw [h.n2];exact e)] at h2;exact (h.row i b q h1 h2).grown hg (h.blo b (Zm h1)).2
   · subst e
     rw [List.getElem?_append_right (by rw [h.n1];exact Zn _),h.n1,Nat.sub_self] at h1;rw [List.getElem?_append_right (by rw [h.n2];exact Zn _),h.n2,Nat.sub_self] at h2
     cases h1
     cases h2
     exact hr.grown hg hnA
   · rw [List.getElem?_eq_none (by simp [h.n2];omega)] at h2;cases h2
 · rcases List.mem_append.1 hb with hb|hb
   · exact ⟨(h.blo b hb).1,hA' b (hbl b hb) (h.blo b hb).2⟩
   · rw [List.mem_singleton.1 hb]
     exact ⟨hB,hA' rb hr.lt hnA⟩
 · rw [List.nodup_append]
   exact ⟨h.nd,by simp,fun a ha b hb e=>hnb a ha (by rw [e,List.mem_singleton.1 hb])⟩
theorem Qxy:∀ (bs:List Nat) (rows:List (List Bool)) (i:Nat) (r s:List Bool),rows[i]?=some r→s.length=r.length→List.zipWith Quy bs (rows.set i s)=List.zipWith Quy bs rows
 | [],_,_,_,_,_,_=>by simp
 | _::_,[],i,r,s,h,_=>by simp at h
 | b::bs,q::rows,0,r,s,h,hl=>by
  cases h
  simp [Quy,hl]
 | b::bs,q::rows,i+1,r,s,h,hl=>by
  rw [List.set_cons_succ,List.zipWith_cons_cons,List.zipWith_cons_cons,Qxy bs rows i r s (by simpa using h) hl]
theorem TlO.mark (h:TlO W B A n cp bs rows){i b q:Nat}{r:List Bool} (hb:bs[i]?=some b) (hr:rows[i]?=some r) (v:Bool):TlO (W.setCell ⟨b,q,none⟩ (.bool v)) B A n cp bs (rows.set i (r.set q v)):=by
 have hlt:=(Zs hr).1;have hbl:=(Zs hb).1;refine ⟨?_,h.n1,by rw [List.length_set];exact h.n2,fun j b' r' h1 h2=>?_,h.blo,h.nd⟩
 · rw [Qxy bs rows i r _ hr (List.length_set ..)]
   exact h.own.far (Qaa _ _ _ _) (.inr (h.blo b (Zm hb)).2)
 · by_cases e:i=j
   · subst e
     rw [List.getElem?_set_self hlt] at h2
     cases h2
     rw [hb] at h1
     cases h1
     exact (h.row i b r hb hr).setB rfl
   · rw [List.getElem?_set_ne e] at h2
     have hne:b≠b':=fun e2=>by
      subst e2;exact e ((List.getElem?_inj hbl h.nd).1 (hb.trans h1.symm))
     exact (h.row j b' r' h1 h2).far_ (fun e2=>hne e2.symm) _
end
theorem tb_put {ls:List (List Int)} {f g:Nat→Nat→Bool} {i q0:Nat} {l:List Int} {v:Bool} (hl:ls[i]?=some l) (h0:∀ (k:Nat) (l':List Int) (q:Nat),ls[k]?=some l'→q<(Qai l').toNat→¬(k=i∧q=q0)→g k q=f k q) (h1:g i q0=v) (hq0:q0<(Qai l).toNat) :
 tb ls g=(tb ls f).set i (((List.range (Qai l).toNat).map (f i)).set q0 v):=by
 apply List.ext_getElem?
 intro k
 by_cases e:i=k
 · subst e
   rw [List.getElem?_set_self (by rw [Qcs];exact (Zs hl).1),Qcw hl]
   congr 1
   apply List.ext_getElem?
   intro q
   by_cases hq:q<(Qai l).toNat
   · rw [List.getElem?_map,List.getElem?_range hq,Option.map_some]
     by_cases e2:q0=q
     · subst e2
       rw [List.getElem?_set_self (by simpa using hq),h1]
     · rw [List.getElem?_set_ne e2,List.getElem?_map,List.getElem?_range hq,Option.map_some,h0 i l q hl hq (fun h=>e2 h.2.symm)]
   · rw [List.getElem?_eq_none (by simp;omega),List.getElem?_eq_none (by simp;omega)]
 · rw [List.getElem?_set_ne e]
   cases hk:ls[k]? with
   | none=>rw [List.getElem?_eq_none (by rw [Qcs];exact List.getElem?_eq_none_iff.1 hk),List.getElem?_eq_none (by rw [Qcs];exact List.getElem?_eq_none_iff.1 hk)]
   | some l' =>
    rw [Qcw hk,Qcw hk]
    congr 1
    exact List.map_congr_left (fun q hq=>h0 k l' q hk (List.mem_range.1 hq) (fun h=>e h.1.symm))
def DrP (w:World)(L:Nat) (rows:List (List Bool)) (r:Ending) (w':World):Prop:=∃ R cr,r=.returned (.slice R L cr)∧RdQ w' R L rows∧Below w.heap.size w w'
set_option maxRecDepth 20000 in
set_option maxHeartbeats 8000000 in
theorem Qtv (xA xB xC xQ:Value)(G AE A B:Option Addr)(L cg ce NE ca cb:Nat)(EL:List Ent)(N:Qaj) (ls:List (List Int)) (a b:List Int) (w:World) (hG:RdG w G L (gatesOf N.ar ls)) (hE:Rds w 4 AE NE (Qev EL)) (hNE:NE=EL.length) (hNC:NE=Qbf (gatesOf N.ar ls)) (hEP:EntP N ls EL) (hN9:NE≤1000000000)
 (hA:RdI w A NE a) (hB:RdI w B NE b) (hL6:ls.length≤6) (hlv:∀ l∈ls,(Qai l).toNat≤4096) :
 Calls prog 16 #[.agg #[xA,xB,xC,xQ,.slice G L cg,.slice AE NE ce],.slice A NE ca,.slice B NE cb] w (DrP w L (tb ls (Qpu N.ar ls a b))):=by
 have hLL:L=ls.length:=by rw [←hG.1];simp [gatesOf]
 have HLL:=Zh hLL;rw [←hLL] at hL6;have HG:=Zh hG;have HE:=Zh hE;have HEP:=Zh hEP;have HNE:=Zh hNE;have HNC:=Zh hNC;have HA:=Zh hA;have HB:=Zh hB;have HMO:=Zh hlv;clear hLL hG hE hNE hNC hEP hA hB hlv
 go_enter func16,ntmps16
 go_wp2_with fail
 (refine Qag ?_;intro w1 hw1)
 have hb1:Below w.heap.size w w1:=by rw [hw1];exact Qae
 have hO1:Blk w1 w.heap.size 38 #[xA,xB,xC,xQ,.slice G L cg,.slice AE NE ce]:=by
  rw [hw1]
  repeat (first|(refine Blk.new' _ _ _ ?_ <;> simp <;> done)|apply Blk.alloc)
 have HB1:=Zh hb1;have HO1:=Zh hO1;clear hw1 hb1
 go_loopw [7,8] (fun z q V=>Below w1.heap.size w1 V∧∃ (i:Nat) (R:Option Addr) (cp:Nat) (bs:List Nat),i≤L∧q=.int .i64 i∧z=.slice R i cp∧TlO V w1.heap.size R i cp bs ((tb ls noM).take i)) (fun _ q _=>L-(intOf q).toNat)
 case atStart=>exact ⟨Zr _ _,0,none,0,[],Nat.zero_le _,rfl,rfl,by rw [List.take_zero];exact TlO.start _ _⟩
 case round =>
  obtain ⟨hbl,i,R,cp,bs,hi,rfl,rfl,hT⟩:=hrel;have hOr:=hO1.below hbl hO1.lt;have x4:wr.cell? ⟨w.heap.size,4,none⟩=some (.slice G L cg):=Zq hOr;have x5:wr.cell? ⟨w.heap.size,5,none⟩=some (.slice AE NE ce):=Zq hOr;have xl:=hOr.lt;have HT:=Zh hT;have HBL:=Zh hbl;have hbw:=Zb HB1.out hbl;clear hT hOr
  by_cases hlt:i<L
  · obtain ⟨row,gb,go_,A2,m,c2,hrow,rfl,hc2,hrc,_,_⟩:=(HG.out.le (Le.below hbw)).at_ hlt
    obtain ⟨r0,hr0⟩:∃ r0,ls[i]?=some r0:=⟨_,Zg (by rw [←HLL.out];exact hlt)⟩;rw [Qba hr0] at hrow;obtain rfl:=Option.some.inj hrow;have hm:m=(Qai r0).toNat:=by rw [←hrc.1,Qan]
    have hM4:=HMO.out r0 (Zm hr0);rw [←hm] at hM4;have hmk:=Qhj m (by omega);have hrl:((tb ls noM).take i).length=i:=by rw [List.length_take,Qcs,←HLL.out];omega
    have HTN:=Zh (show (tb ls noM).take (i+1)=(tb ls noM).take i ++[List.replicate m false] by
     have h1:=Qxm hr0;rw [←hm] at h1;rw [List.take_succ_eq_append_getElem (Zs h1).1,(Zs h1).2])
    obtain ⟨W2,hW2⟩:∃ W2,W2=(wr.alloc (.cells (Qbc (.bool false) m) 4)).alloc (.cells #[.slice (some ⟨wr.heap.size,0,none⟩) m m] 80):=⟨_,rfl⟩;have HW2:=Zh hW2;have hz2:W2.heap.size=wr.heap.size+2:=by rw [hW2];simp
    have hb2:Below wr.heap.size wr W2:=by rw [hW2];exact Qae
    have hz:Qbc (.bool false) m=Qco (List.replicate m false):=by simp [Qbc,Qco]
    have hrb:Blk W2 wr.heap.size 4 (Qco (List.replicate m false)):=by
     rw [hW2,←hz];exact (Blk.new _ _ _).alloc _
    have hrd:Rds W2 1 (some ⟨wr.heap.size+1,0,none⟩) 1 [Quy wr.heap.size (List.replicate m false)]:=by
     rw [hW2];unfold Quy;rw [List.length_replicate];have:=(Blk.new (wr.alloc (.cells (Qbc (.bool false) m) 4)) 80 #[.slice (some ⟨wr.heap.size,0,none⟩) m m]).rds (s:=1) (m:=1) rfl
     simpa using this
    have hT2:=HT.out.below hb2;have hown:=hT2.own;have hsz:w1.heap.size≤W2.heap.size:=by have:=hbl.size;omega
    have HR2:=Zh hrb;have HT2:=Zh hT2;have HB2:=Zh (Zb HBL.out hb2);have HZ2:=Zh hz2;have HBS:=Zh HT.out.lt;have HRS:=Zh (fun g e=>(HT.out.own.lt g e).2);have i1:(i:Int)<(L:Int):=by omega
    have i2:(0:Int)≤(i:Int):=by omega
    clear hrow hrc hr0 hm hW2 hb2 hrb hT2 hz2 hz hrl HT
    go_wp2_with (at_builtin;rw [←HW2.out];with_reducible refine Qap rfl (.tmp 18) (.tmp 26) 40 rfl 80 _ 1 24 infoQ underlying40 rfl (by omega) rfl rfl hown hrd (rcel_one _ _) (by omega) (by omega) hsz ?_)
    intro R3 c3 w8 ho8 hg8 hat8;have hb8:=Bel.grownOwn HB2.out hg8 hown hsz
    have HT8:=Zh (show TlO w8 w1.heap.size R3 (i+1) c3 (bs ++[wr.heap.size]) ((tb ls noM).take (i+1)) by
     rw [HTN.out];exact HT2.out.push HR2.out HBL.out.size (fun b hb e=>by have:=HBS.out b hb;omega) (fun e=>by have:=HRS.out _ e;omega) ho8 hg8 hat8)
    clear hown hrd ho8 hg8 hat8 x4 x5
    go_wp2_with fail
    go_roundw
    case rel=>exact ⟨hb8,i+1,R3,c3,_,by omega,by go_num,rfl,HT8.out⟩
    case measure=>simp [intOf];omega
  obtain rfl:i=L:=by omega
  have i3:¬((i:Int)<(i:Int)):=by omega
  have HT0:=Zh (show TlO wr w1.heap.size R i cp bs (tb ls (Qno N.ar ls a b 0)) by
   have h1:=HT.out;rw [List.take_of_length_le (by rw [Qcs,←HLL.out];exact Zn _)] at h1;exact h1)
  have hbR:∀ g,Qab R=some g→w1.heap.size≤g:=fun g e=>(HT.out.own.lt g e).1
  clear HT hlt hi x5
  go_wp2_with fail
  go_loopw [9] (fun q V=>Below w1.heap.size w1 V∧∃ k:Nat,k≤NE∧q=.int .i64 k∧TlO V w1.heap.size R i cp bs (tb ls (Qno N.ar ls a b k))) (fun q _=>NE-(intOf q).toNat)
  case atStart=>exact ⟨hbl,0,Nat.zero_le _,rfl,HT0.out⟩
  case round =>
   clear hbl hbw x4 xl HT0 HBL;obtain ⟨hbl,k,hk,rfl,hT⟩:=hrel;have hOr:=hO1.below hbl hO1.lt;have x4:wr.cell? ⟨w.heap.size,4,none⟩=some (.slice G i cg):=Zq hOr;have x5:wr.cell? ⟨w.heap.size,5,none⟩=some (.slice AE NE ce):=Zq hOr;have xl:=hOr.lt;have HT:=Zh hT;have HBL:=Zh hbl;have hbw:=Zb HB1.out hbl;clear hT
   by_cases hlt:k<NE
   rotate_left
   · obtain rfl:k=NE:=by omega
     have k3:¬((k:Int)<(k:Int)):=by omega
     have HF:=Zh (show RdQ wr R i (tb ls (Qpu N.ar ls a b)) by
      have e:tb ls (Qpu N.ar ls a b)=tb ls (Qno N.ar ls a b k):=Qdh (fun i' l hl q hq=>by
       refine (difR_all ?_).symm;obtain ⟨y,hy⟩:∃ y,(gateRow N.ar l)[q]?=some y:=⟨_,Zg (by rw [Qan];exact hq)⟩;have e1:=Qeh (gateRow N.ar l) (q+1);have e2:=Qdi (gatesOf N.ar ls) (i'+1);rw [Qbr (Qba hl),←HNC.out] at e2;rw [Qbl hy] at e1;unfold Qca Qff;rw [Qcx hl,List.getD_eq_getElem?_getD,hy,Option.getD_some];omega)
      rw [e]
      exact HT.out.rdQ (fun r hr=>by
       obtain ⟨i',hi'⟩:=List.getElem?_of_mem hr;have hl':=(Zs hi').1;rw [Qcs] at hl';have h2:=Zg hl';have h3:=Qcw (f:=Qno N.ar ls a b k) h2;rw [hi'] at h3
       cases h3
       rw [List.length_map,List.length_range];have:=HMO.out _ (Zm h2);omega))
     clear HT hOr
     go_wp2_with fail
     go_ret
     exact ⟨R,cp,rfl,HF.out,hbw⟩
   obtain ⟨⟨il,iq,ia,ib⟩,he⟩:∃ e,EL[k]?=some e:=⟨_,Zg (by rw [←HNE.out];exact hlt)⟩;obtain ⟨l,x,s,t,hent⟩:=HEP.out k _ he;simp only at hent;have hEr:=HE.out.below hbw;have hc:=fun (q:Nat) (u:Value) (hq:q<4) (hu:(Qgz (il,iq,ia,ib))[q]?=some u)=>hEr.2 (k*4+q) u (by rw [Qoo EL k _ he q hq];exact hu)
   obtain ⟨eb,eo,rfl,c0⟩:=hc 0 _ (by omega) rfl;obtain ⟨_,_,e1,c1⟩:=hc 1 _ (by omega) rfl
   cases e1
   obtain ⟨_,_,e2,c2⟩:=hc 2 _ (by omega) rfl
   cases e2
   obtain ⟨_,_,e3,c3⟩:=hc 3 _ (by omega) rfl
   cases e3
   rw [←Nat.add_assoc] at c0 c1 c2 c3;rw [Nat.add_zero] at c0;simp only at c0 c1 c2 c3;have hil:il<i:=by rw [HLL.out];exact (Zs hent.hl).1
   have hiq:iq<(Qai l).toNat:=by rw [←Qan N.ar l];exact (Zs hent.hx).1
   have hM4:=HMO.out l (Zm hent.hl);obtain ⟨M,hM⟩:∃ M,M=(Qai l).toNat:=⟨_,rfl⟩;rw [←hM] at hM4 hiq;have HMM:=Zh hM;obtain ⟨ab,ao,y,rfl,hy,cy⟩:=(HA.out.below hbw).at_ hlt;obtain ⟨bb,bo,z,rfl,hz,cz⟩:=(HB.out.below hbw).at_ hlt
   have hal:ab<w.heap.size:=by
    obtain ⟨b',o',_,e,_,hc'⟩:=HA.out.at_ hlt
    cases e
    have:=Qak hc'
    simpa using this
   have hbl9:bb<w.heap.size:=by
    obtain ⟨b',o',_,e,_,hc'⟩:=HB.out.at_ hlt
    cases e
    have:=Qak hc'
    simpa using this
   obtain ⟨rb,hrb,hrk,hrB,hrA,ob,oo,rfl,hrc⟩:=HT.out.get (Qcw (f:=Qno N.ar ls a b k) hent.hl);unfold Quy at hrc;rw [List.length_map,List.length_range,←hM] at hrc;have hvk:=Qni (f:=Qno N.ar ls a b k) (i:=il) l (show iq<(Qai l).toNat by rw [←hM];exact hiq)
   have hcb:=hrk.cellB hvk;have hfr:=hrk.frozen iq;have HENT:=Zh hent;have HY:=Zh hy;have HZ:=Zh hz;have HRB:=Zh hrb;have hcbl:=hrk.lt;have j1:(k:Int)<(NE:Int):=by omega
   have j2:(0:Int)≤(k:Int):=by omega
   have j3:IntKind.i64.wrap ((il:Int)+1-1)=(il:Int):=by rw [IntWalk.i64_in _ (by omega)];omega
   have j3':(il:Int)+1-1=(il:Int):=by omega
   have j4:(0:Int)≤(il:Int):=by omega
   have j5:(il:Int)<(i:Int):=by omega
   have j6:(0:Int)≤(iq:Int):=by omega
   have j7:(iq:Int)<(M:Int):=by omega
   have HNX:=Zh (show ∀ v:Bool,v=(Qno N.ar ls a b k il iq || y != z)→tb ls (Qno N.ar ls a b (k+1))=(tb ls (Qno N.ar ls a b k)).set il (((List.range (Qai l).toNat).map (Qno N.ar ls a b k il)).set iq v) from fun v hv=>by
    refine tb_put hent.hl (fun i' l' q hl' hq' hne=>?_) ?_ (by rw [←hM];exact hiq)
    · rw [Qod]
      have h1:=fun h=>hne ((Qsp hent hl' hq').1 h)
      have h2:(decide (Qca N.ar ls i' q≤k) && decide (k<Qca N.ar ls i' q+Qff N.ar ls i' q))=false:=by
       rw [Bool.and_eq_false_iff];rw [←Classical.not_not (a:=(decide (Qca N.ar ls i' q≤k)=false∨_))];intro h3;have h4:=not_or.1 h3;exact h1 ⟨by simpa using h4.1,by simpa using h4.2⟩
      rw [h2,Bool.false_and,Bool.or_false]
    · rw [Qod,hv]
      have h1:=(Qsp hent hent.hl (show iq<(Qai l).toNat by rw [←hM];exact hiq)).2 ⟨rfl,rfl⟩
      rw [decide_eq_true h1.1,decide_eq_true h1.2,List.getD_eq_getElem?_getD,List.getD_eq_getElem?_getD,hy,hz]
      rfl)
   clear hent hc he hEr hM hy hz hrb hrk hvk hOr
   go_wp2_with fail
   (refine Qag ?_;intro w2 hw2)
   have hb2:Below wr.heap.size wr w2:=by rw [hw2];exact Qae
   have hE2:Blk w2 wr.heap.size 97 #[.int .i64 ((il:Int)+1),.int .i64 iq,.int .i64 ia,.int .i64 ib]:=by rw [hw2];exact Qay
   have hz1:=HB1.out.size;have hz2:=hbl.size;have hrl:rb<wr.heap.size:=hcbl
   have hob:ob<wr.heap.size:=by have:=Qak hrc;simpa using this
   have hro:rb≠ob:=fun e=>hrA (by rw [e];rfl)
   have HT2:=Zh (HT.out.below hb2);have hbl2:Below w1.heap.size w1 w2:=hbl.trans (hb2.mono hz2);have HBL2:=Zh hbl2;have k1:w2.drew.cell? ⟨ob,oo+il,none⟩=some (.slice (some ⟨rb,0,none⟩) M M):=Zc hb2 (Zn _) hrc;have k2:w2.drew.cell? ⟨ab,ao+k,none⟩=some (.int .i64 y):=Zc hb2 (Zn _) cy;have k3:w2.drew.cell? ⟨bb,bo+k,none⟩=some (.int .i64 z):=Zc hb2 (Zn _) cz;have k4:w2.drew.cell? ⟨wr.heap.size,0,none⟩=some (.int .i64 ((il:Int)+1)):=by have:=hE2.cell 0;exact this
   have k5:w2.drew.cell? ⟨wr.heap.size,1,none⟩=some (.int .i64 iq):=by have:=hE2.cell 1;exact this
   have k6:w2.drew.cell? ⟨rb,iq,none⟩=some (.bool (Qno N.ar ls a b k il iq)):=Zc hb2 (Zn _) hcb;have k7:w2.drew.frozen? ⟨rb,iq,none⟩=false:=by rw [←hfr];exact Below.frozenOf hb2 (by exact hrl)
   obtain ⟨S,hSe⟩:∃ S:World→Prop,S=fun V=>V.cell? ⟨ob,oo+il,none⟩=some (.slice (some ⟨rb,0,none⟩) M M)∧V.cell? ⟨ab,ao+k,none⟩=some (.int .i64 y)∧V.cell? ⟨bb,bo+k,none⟩=some (.int .i64 z)∧V.cell? ⟨wr.heap.size,0,none⟩=some (.int .i64 ((il:Int)+1))∧V.cell? ⟨wr.heap.size,1,none⟩=some (.int .i64 iq):=⟨_,rfl⟩
   have HSX:=Zh (show ∀ V,S V→V.cell? ⟨ob,oo+il,none⟩=some (.slice (some ⟨rb,0,none⟩) M M)∧V.cell? ⟨ab,ao+k,none⟩=some (.int .i64 y)∧V.cell? ⟨bb,bo+k,none⟩=some (.int .i64 z)∧V.cell? ⟨wr.heap.size,0,none⟩=some (.int .i64 ((il:Int)+1))∧V.cell? ⟨wr.heap.size,1,none⟩=some (.int .i64 iq)∧IntKind.i64.wrap (il:Int)=(il:Int) from fun V h=>by rw [hSe] at h;exact ⟨h.1,h.2.1,h.2.2.1,h.2.2.2.1,h.2.2.2.2,IntWalk.i64_in _ (by omega)⟩)
   have hS2:S w2.drew:=by rw [hSe];exact ⟨k1,k2,k3,k4,k5⟩
   have hS3:∀ u,S (w2.drew.setCell ⟨rb,iq,none⟩ u):=fun u=>by
    rw [hSe];refine ⟨?_,?_,?_,?_,?_⟩
    all_goals rw [World.cell?_setCell_other _ _ _ _ (by intro h;simp only [Addr.mk.injEq] at h;omega)];assumption
   have HS3:=Zh hS3
   have HVT:=Zh (show ∀ v:Bool,v=(Qno N.ar ls a b k il iq || y != z)→TlO (w2.drew.setCell ⟨rb,iq,none⟩ (.bool v)) w1.heap.size (some ⟨ob,oo,none⟩) i cp bs (tb ls (Qno N.ar ls a b (k+1))) from fun v hv=>by
    rw [HNX.out v hv];exact (HT2.out.below (Zr _ _).drew).mark HRB.out (Qcw HENT.out.hl) v)
   have HBV:=Zh (show ∀ u,Below w1.heap.size w1 (w2.drew.setCell ⟨rb,iq,none⟩ u) from fun u=>Below.setCell hbl2.drew (by exact hrB) u)
   obtain ⟨vo,hvo⟩:∃ vo,vo=Qno N.ar ls a b k il iq:=⟨_,rfl⟩;rw [←hvo] at k6 HVT;clear hSe hrc cy cz hcb hfr x4 x5 c0 c1 c2 c3 hE2 hb2 hw2 hbl hbw hbl2 HT HT2 HNX hS3 k1 k2 k3 k4 k5 hvo;refine wp_region_held_drew (S:=S) (by kernel_rfl) hS2 (fun _=>?_);refine tz 0 40 ?_;refine tz 1 41 ?_;refine tz 2 42 ?_;refine tz 3 43 ?_;refine tz 4 44 ?_;refine tz 5 45 ?_;refine tz 6 46 ?_;refine tz 7 47 ?_;refine tz 8 48 ?_;refine tz 9 49 ?_;refine tz 10 50 ?_;refine tz 11 51 ?_;refine tz 12 52 ?_;refine tz 13 53 ?_;refine tz 14 54 ?_;refine tz 15 55 ?_;refine tz 16 56 ?_;refine Zk 17 (fun K hK=>?_);go_simp;refine hK.out _ _ hS2 (fun _=>?_);clear hK K;refine tz 18 58 ?_
   cases vo with
   | true =>
    refine tw 19 59 ?_;refine tw 20 60 ?_;refine tw 21 61 ?_;refine tw 22 62 ?_;refine tw 23 63 ?_;refine tw 24 64 ?_;refine tw 25 65 ?_;refine tw 26 66 ?_;refine tw 27 67 ?_;refine tz 28 68 ?_;refine tz 29 69 ?_;refine Zk 30 (fun K hK=>?_);go_simp;refine hK.out _ _ (HS3.out _) (fun _=>?_);clear hK K;refine Zd ?_;have HVF:=Zh (HVT.out true rfl);clear HSX k6 k7 hS2
    go_wp2_with fail
    go_roundw
    case rel=>exact ⟨HBV.out _,k+1,by omega,by go_num,HVF.out⟩
    case measure=>simp [intOf];omega
   | false =>
    refine tz 19 59 ?_;refine tz 20 60 ?_;refine tz 21 61 ?_;refine tz 22 62 ?_;refine tz 23 63 ?_;refine tz 24 64 ?_;refine tz 25 65 ?_;refine tz 26 66 ?_;refine tz 27 67 ?_;refine tz 28 68 ?_;refine tz 29 69 ?_;refine Zk 30 (fun K hK=>?_);go_simp;refine hK.out _ _ (HS3.out _) (fun _=>?_);clear hK K;refine Zd ?_;have HVF:=Zh (HVT.out (y != z) (by simp));clear HSX k6 k7 hS2
    go_wp2_with fail
    go_roundw
    case rel=>exact ⟨HBV.out _,k+1,by omega,by go_num,HVF.out⟩
    case measure=>simp [intOf];omega
theorem Qnc:gateRow Qbm.ar [0,0,1]=[([2],[1]),([1],[2])]:=by decide
theorem k_gr2:gateRow Qbm.ar [0,0,0]=[([],[])]:=by decide
theorem Qjy:gatesOf Qbm.ar Qin=[[([2],[1]),([1],[2])],[([],[])]]:=by
 unfold gatesOf Qin;rw [List.map_cons,List.map_cons,List.map_nil,Qnc,k_gr2]
theorem Qpg:Qbf (gatesOf Qbm.ar Qin)=2:=by rw [Qjy];decide
theorem k_lt {a:Nat}{y:Tri} (h:Qbm.ar[a]?=some y):a=0∧y=(0,1,10)∨a=1∧y=(1,2,20)∨a=2∧y=(2,0,30)∨a=3∧y=(1,0,40):=by
 match a,h with
 | 0,h=>cases h;exact .inl ⟨rfl,rfl⟩
 | 1,h=>cases h;exact .inr (.inl ⟨rfl,rfl⟩)
 | 2,h=>cases h;exact .inr (.inr (.inl ⟨rfl,rfl⟩))
 | 3,h=>cases h;exact .inr (.inr (.inr ⟨rfl,rfl⟩))
 | k+4,h=>simp [Qbm] at h
theorem k_t01:Qbb Qbm 0 1=1:=by decide
theorem k_t12:Qbb Qbm 1 2=2:=by decide
theorem k_turn {a b:Nat}(h:Qbb Qbm a b≠1152921504606846976):a=2∧b=0∨a=0∧b=1∨a=0∧b=3∨a=1∧b=2:=by
 obtain ⟨x,y,hx,hy,e⟩:=Qcr h
 rcases k_lt hx with ⟨rfl,rfl⟩|⟨rfl,rfl⟩|⟨rfl,rfl⟩|⟨rfl,rfl⟩ <;> rcases k_lt hy with ⟨rfl,rfl⟩|⟨rfl,rfl⟩|⟨rfl,rfl⟩|⟨rfl,rfl⟩ <;>
  first
  | exact absurd e (by decide)
  | exact .inl ⟨rfl,rfl⟩
  | exact .inr (.inl ⟨rfl,rfl⟩)
  | exact .inr (.inr (.inl ⟨rfl,rfl⟩))
  | exact .inr (.inr (.inr ⟨rfl,rfl⟩))
  | exact absurd (by decide) h
theorem k_ent1:Qhr Qbm (Qef [0,0,1] 0) 2 1 11:=by
 have hr:∀ p c,Rch (StA Qbm (Qef [0,0,1] 0)) 2 p c→p=2∧c=0∨p=0∧c=10∨p=3∧c=55:=by
  intro p c h
  induction h with
  | start=>exact .inl ⟨rfl,rfl⟩
  | step _ h2 ih =>
   obtain ⟨y,hy,h3,_,h4,h5,rfl⟩:=h2
   rcases k_turn h3 with ⟨rfl,rfl⟩|⟨rfl,rfl⟩|⟨rfl,rfl⟩|⟨rfl,rfl⟩
   · cases hy
     refine .inr (.inl ⟨rfl,?_⟩)
     rcases ih with ⟨_,rfl⟩|⟨h,_⟩|⟨h,_⟩
     · decide
     · exact absurd h (by decide)
     · exact absurd h (by decide)
   · cases hy
     exact absurd h5 (by decide)
   · cases hy
     refine .inr (.inr ⟨rfl,?_⟩)
     rcases ih with ⟨h,_⟩|⟨_,rfl⟩|⟨h,_⟩
     · exact absurd h (by decide)
     · decide
     · exact absurd h (by decide)
   · cases hy
     exact absurd h4 (by decide)
 refine .inl ⟨⟨0,10,1,?_,⟨by decide,by decide⟩,rfl⟩,fun v hv=>?_⟩
 · exact Rch.start.step (show StA Qbm (Qef [0,0,1] 0) 2 0 10 from ⟨(0,1,10),rfl,by decide,by decide,by decide,by decide,by decide⟩)
 · obtain ⟨p,c,d,h1,⟨h2,rfl⟩,rfl⟩:=hv
   rcases hr p c h1 with ⟨rfl,rfl⟩|⟨rfl,rfl⟩|⟨rfl,rfl⟩
   · exact absurd (by decide) h2
   · rw [k_t01];decide
   · exact absurd (by decide) h2
theorem k_ent2:Qhr Qbm (Qef [0,0,1] 1) 1 2 2:=by
 have hr:∀ p c,Rch (StA Qbm (Qef [0,0,1] 1)) 1 p c→p=1∧c=0:=by
  intro p c h
  induction h with
  | start=>exact ⟨rfl,rfl⟩
  | step _ h2 ih =>
   obtain ⟨y,hy,h3,_,h4,h5,rfl⟩:=h2
   rcases k_turn h3 with ⟨rfl,rfl⟩|⟨rfl,rfl⟩|⟨rfl,rfl⟩|⟨rfl,rfl⟩ <;> cases hy
   · exact absurd h4 (by decide)
   · exact absurd h4 (by decide)
   · exact absurd h4 (by decide)
   · exact absurd h5 (by decide)
 refine .inl ⟨⟨1,0,2,.start,⟨by decide,by decide⟩,rfl⟩,fun v hv=>?_⟩;obtain ⟨p,c,d,h1,⟨h2,rfl⟩,rfl⟩:=hv;obtain ⟨rfl,rfl⟩:=hr p c h1;rw [k_t12]
 decide
theorem k_all:Qds Qbm Qin [11,2]:=by
 refine ⟨by rw [Qpg];rfl,fun k v hk=>?_⟩
 match k,hk with
 | 0,hk =>
  cases hk
  exact ⟨0,[0,0,1],0,([2],[1]),0,0,2,1,⟨rfl,by rw [Qnc];rfl,rfl,rfl,by rw [Qjy,Qnc];decide⟩,k_ent1⟩
 | 1,hk =>
  cases hk
  exact ⟨0,[0,0,1],1,([1],[2]),0,0,1,2,⟨rfl,by rw [Qnc];rfl,rfl,rfl,by rw [Qjy,Qnc];decide⟩,k_ent2⟩
 | k+2,hk=>simp at hk
theorem k_part:Qcg Qbm.vs.length Qin:=twoL_ok
def Qdp:Qaj:=Qbm.setW 0 0 1 30
def ch30:List Chn:=[(1,0,0,0,30)]
theorem Qvo:Qch Qbm ch30:=⟨fun c hc=>by
 obtain rfl:c=(1,0,0,0,30):=by simpa [ch30] using hc
 exact .inl ⟨0,rfl,rfl,rfl,rfl,by decide,by decide⟩,by simp [ch30]⟩
theorem Qeu:Kin Qbm Qdp:=(Qcl Qvo).kin
theorem m_lt {a:Nat}{y:Tri} (h:Qdp.ar[a]?=some y):a=0∧y=(0,1,30)∨a=1∧y=(1,2,20)∨a=2∧y=(2,0,30)∨a=3∧y=(1,0,40):=by
 match a,h with
 | 0,h=>cases h;exact .inl ⟨rfl,rfl⟩
 | 1,h=>cases h;exact .inr (.inl ⟨rfl,rfl⟩)
 | 2,h=>cases h;exact .inr (.inr (.inl ⟨rfl,rfl⟩))
 | 3,h=>cases h;exact .inr (.inr (.inr ⟨rfl,rfl⟩))
 | k+4,h=>simp [Qdp,Qbm,Qaj.setW] at h
theorem m_turn {a b:Nat}(h:Qbb Qdp a b≠1152921504606846976):a=2∧b=0∨a=0∧b=1∨a=0∧b=3∨a=1∧b=2:=by
 obtain ⟨x,y,hx,hy,e⟩:=Qcr h
 rcases m_lt hx with ⟨rfl,rfl⟩|⟨rfl,rfl⟩|⟨rfl,rfl⟩|⟨rfl,rfl⟩ <;> rcases m_lt hy with ⟨rfl,rfl⟩|⟨rfl,rfl⟩|⟨rfl,rfl⟩|⟨rfl,rfl⟩ <;>
  first
  | exact absurd e (by decide)
  | exact .inl ⟨rfl,rfl⟩
  | exact .inr (.inl ⟨rfl,rfl⟩)
  | exact .inr (.inr (.inl ⟨rfl,rfl⟩))
  | exact .inr (.inr (.inr ⟨rfl,rfl⟩))
  | exact absurd (by decide) h
theorem m_t01:Qbb Qdp 0 1=1:=by decide
theorem m_ent1:Qhr Qdp (Qef [0,0,1] 0) 2 1 31:=by
 have hr:∀ p c,Rch (StA Qdp (Qef [0,0,1] 0)) 2 p c→p=2∧c=0∨p=0∧c=30∨p=3∧c=75:=by
  intro p c h
  induction h with
  | start=>exact .inl ⟨rfl,rfl⟩
  | step _ h2 ih =>
   obtain ⟨y,hy,h3,_,h4,h5,rfl⟩:=h2
   rcases m_turn h3 with ⟨rfl,rfl⟩|⟨rfl,rfl⟩|⟨rfl,rfl⟩|⟨rfl,rfl⟩
   · cases hy
     refine .inr (.inl ⟨rfl,?_⟩)
     rcases ih with ⟨_,rfl⟩|⟨h,_⟩|⟨h,_⟩
     · decide
     · exact absurd h (by decide)
     · exact absurd h (by decide)
   · cases hy
     exact absurd h5 (by decide)
   · cases hy
     refine .inr (.inr ⟨rfl,?_⟩)
     rcases ih with ⟨h,_⟩|⟨_,rfl⟩|⟨h,_⟩
     · exact absurd h (by decide)
     · decide
     · exact absurd h (by decide)
   · cases hy
     exact absurd h4 (by decide)
 refine .inl ⟨⟨0,30,1,?_,⟨by decide,by decide⟩,rfl⟩,fun v hv=>?_⟩
 · exact Rch.start.step (show StA Qdp (Qef [0,0,1] 0) 2 0 30 from ⟨(0,1,30),rfl,by decide,by decide,by decide,by decide,by decide⟩)
 · obtain ⟨p,c,d,h1,⟨h2,rfl⟩,rfl⟩:=hv
   rcases hr p c h1 with ⟨rfl,rfl⟩|⟨rfl,rfl⟩|⟨rfl,rfl⟩
   · exact absurd (by decide) h2
   · rw [m_t01];decide
   · exact absurd (by decide) h2
theorem m_t12:Qbb Qdp 1 2=2:=by decide
theorem m_ent2:Qhr Qdp (Qef [0,0,1] 1) 1 2 2:=by
 have hr:∀ p c,Rch (StA Qdp (Qef [0,0,1] 1)) 1 p c→p=1∧c=0:=by
  intro p c h
  induction h with
  | start=>exact ⟨rfl,rfl⟩
  | step _ h2 ih =>
   obtain ⟨y,hy,h3,_,h4,h5,rfl⟩:=h2
   rcases m_turn h3 with ⟨rfl,rfl⟩|⟨rfl,rfl⟩|⟨rfl,rfl⟩|⟨rfl,rfl⟩ <;> cases hy
   · exact absurd h4 (by decide)
   · exact absurd h4 (by decide)
   · exact absurd h4 (by decide)
   · exact absurd h5 (by decide)
 refine .inl ⟨⟨1,0,2,.start,⟨by decide,by decide⟩,rfl⟩,fun v hv=>?_⟩;obtain ⟨p,c,d,h1,⟨h2,rfl⟩,rfl⟩:=hv;obtain ⟨rfl,rfl⟩:=hr p c h1;rw [m_t12]
 decide
theorem m_all:Qds Qdp Qin [31,2]:=by
 have e1:gatesOf Qdp.ar Qin=gatesOf Qbm.ar Qin:=Qeu.al.gatesOf _;have e2:∀ l,gateRow Qdp.ar l=gateRow Qbm.ar l:=fun l=>Qeu.al.gateRow l
 refine ⟨by rw [e1,Qpg];rfl,fun k v hk=>?_⟩
 match k,hk with
 | 0,hk =>
  cases hk
  exact ⟨0,[0,0,1],0,([2],[1]),0,0,2,1,⟨rfl,by rw [e2,Qnc];rfl,rfl,rfl,by rw [e1,e2,Qjy,Qnc];decide⟩,m_ent1⟩
 | 1,hk =>
  cases hk
  exact ⟨0,[0,0,1],1,([1],[2]),0,0,1,2,⟨rfl,by rw [e2,Qnc];rfl,rfl,rfl,by rw [e1,e2,Qjy,Qnc];decide⟩,m_ent2⟩
 | k+2,hk=>simp at hk
end Go.Proofs.YthoagdpakddbdaaGreatDoor
