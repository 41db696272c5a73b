/- Parts of the proof: RoO, MdB, Kq, Kr, MdV, On. -/
import Derived.Test.YthoagdpakddbdaaGreatDoorL17
namespace Go.Proofs.YthoagdpakddbdaaGreatDoor
open Go.RowKit Go.Proofs.Tryz
attribute [local go_sem ↓] Go.wp_at_zero Go.wp_at_succ
abbrev Ent:=Nat×Nat×Nat×Nat
def Qit (e:Ent):List Value:=[.int .i64 ((e.1:Int)+1),.int .i64 (e.2.1:Int),.int .i64 (e.2.2.1:Int),.int .i64 (e.2.2.2:Int)]
def Qeh (l:List Ent):List Value:=l.flatMap Qit
theorem Qun (l m:List Ent):Qeh (l ++m)=Qeh l ++Qeh m:=by simp [Qeh]
theorem Qvi (e:Ent):Qeh [e]=Qit e:=by simp [Qeh]
theorem Qxw (e:Ent):∀ u∈Qit e,u.oneCell'=true:=by
 intro u hu;simp only [Qit,List.mem_cons,List.not_mem_nil,or_false] at hu
 rcases hu with rfl|rfl|rfl|rfl <;> rfl
theorem Qqj:∀ (l:List Ent)(k:Nat)(e:Ent),l[k]?=some e→∀ q,q<4→(Qeh l)[k*4+q]?=(Qit e)[q]?
 | [],k,e,h,_,_=>by simp at h
 | x::t,0,e,h,q,hq=>by
  simp only [Yn,Option.some.injEq] at h;subst h
  show (Qit x ++Qeh t)[0*4+q]?=_
  rw [Nat.zero_mul,Yz,Yc (by simpa [Qit] using hq)]
 | x::t,k+1,e,h,q,hq=>by
  have:=Qqj t k e (by simpa using h) q hq
  show (Qit x ++Qeh t)[(k+1)*4+q]?=_
  rw [Yb (by simp [Qit];omega),←this]
  congr 1
  simp [Qit];omega
def EntP (N:Qai) (ls:List (List Int)) (EL:List Ent):Prop:=∀ (k:Nat) (e:Ent),EL[k]?=some e→∃ l x s t,Qhd N ls k e.1 l e.2.1 x e.2.2.1 e.2.2.2 s t
theorem EntP.push {N:Qai} {ls:List (List Int)} {EL:List Ent} {e:Ent} (h:EntP N ls EL) (he:∃ l x s t,Qhd N ls EL.length e.1 l e.2.1 x e.2.2.1 e.2.2.2 s t):EntP N ls (EL ++[e]):=fun k f hk=>by
 rcases Nat.lt_trichotomy k EL.length with e1|e1|e1
 · rw [Yc e1] at hk;exact h k f hk
 · subst e1;rw [Yb (Zn _),Yy] at hk;cases hk;exact he
 · rw [Yd (by simp;omega)] at hk;cases hk
structure OvN (w1 V1:World) (F:Nat→Prop) (b5:Nat) (x0 x1 x2 x3 x4:Value) (N:Qai) (ls:List (List Int)) (V:World) (A:Option Addr) (cp:Nat) (EL:List Ent):Prop where
 kept:Qax F V1 V
 size:V1.heap.size≤V.heap.size
 bel:Below w1.heap.size w1 V
 box:Blk V b5 38 #[x0,x1,x2,x3,x4,.slice A EL.length cp]
 own:Own V V1.heap.size 97 4 A EL.length cp (Qeh EL)
 row:EntP N ls EL
section
variable {w1 V1 V V':World} {F:Nat→Prop} {b5:Nat} {x0 x1 x2 x3 x4:Value} {N:Qai} {ls:List (List Int)} {A:Option Addr} {cp:Nat} {EL:List Ent}
theorem OvN.below (h:OvN w1 V1 F b5 x0 x1 x2 x3 x4 N ls V A cp EL)(hb:Below V.heap.size V V'):OvN w1 V1 F b5 x0 x1 x2 x3 x4 N ls V' A cp EL :=
 ⟨h.kept.trans (Qax.below hb) h.size,Yx h.size hb.size,Zb h.bel hb,h.box.below hb h.box.lt,h.own.below hb,h.row⟩
theorem OvN.le (h:OvN w1 V1 F b5 x0 x1 x2 x3 x4 N ls V A cp EL):Le (msk V1 F) V:=h.kept.msk.trans (Qbh _ _)
theorem OvN.push {A':Option Addr}{cp':Nat}{e:Ent}(h:OvN w1 V1 F b5 x0 x1 x2 x3 x4 N ls V A cp EL)(hF:∀ b,F b→b<V1.heap.size∧b≠b5)(hb:b5<V1.heap.size)(hw:w1.heap.size≤b5)
 (ho:Own V' V1.heap.size 97 4 A' (EL.length+1) cp' (Qeh EL ++Qit e)) (hg:V.grownBy V' (Qaa A)) (he:∃ l x s t,Qhd N ls EL.length e.1 l e.2.1 x e.2.2.1 e.2.2.2 s t) :
 OvN w1 V1 F b5 x0 x1 x2 x3 x4 N ls (V'.setCell ⟨b5,5,none⟩ (.slice A' (EL.length+1) cp')) A' cp' (EL ++[e]):=by
 have hA:∀ g,Qaa A=some g→V1.heap.size≤g:=fun g e=>(h.own.lt g e).1
 have hz:V1.heap.size≤V'.heap.size:=Yx h.size hg.size;have hx:=h.box.grown hg (fun e=>by have:=hA _ e;omega);refine ⟨?_,by simpa [World.setCell] using hz,?_,?_,?_,h.row.push he⟩
 · refine (h.kept.trans (Qax.grown hg (fun b hb' e=>by have:=hA _ e;have:=(hF b hb').1;omega)) h.size).trans (Qax.set V' b5 5 _ (fun e=>(hF b5 e).2 rfl)) hz
 · exact Zi (h.bel.grown hg h.bel.size (fun g e=>by have:=hA _ e;have:=h.bel.size;omega)) hw
 · rw [Yp]
   have:=hx.set_ 5 (.slice A' (EL.length+1) cp')
   simpa using this
 · rw [Yp,Qun,Qvi]
   exact ho.far (Qab _ _ _ _) (.inr (fun e=>by have:=(ho.lt b5 e).1;omega))
end
theorem Qpe {G:Nat→Prop}{W:World}{g:Nat}(hg:¬G g)(v0 v1 v2 v3 v4 v5:Value):Qax G W ((((((W.setCell ⟨g,0,none⟩ v0).setCell ⟨g,1,none⟩ v1).setCell ⟨g,2,none⟩ v2).setCell ⟨g,3,none⟩ v3).setCell ⟨g,4,none⟩ v4).setCell ⟨g,5,none⟩ v5):=fun b hb hl=>by
 have key:∀ (W':World) (o:Nat) (v:Value),b<W'.heap.size→(W'.setCell ⟨g,o,none⟩ v).heap[b]?=W'.heap[b]?∧b<(W'.setCell ⟨g,o,none⟩ v).heap.size:=fun W' o v h'=>⟨(Qab W' g o v).block b h' (fun e=>hg (by cases e;exact hb)),by simpa [World.setCell] using h'⟩
 obtain ⟨e0,h0⟩:=key W 0 v0 hl;obtain ⟨e1,h1⟩:=key _ 1 v1 h0;obtain ⟨e2,h2⟩:=key _ 2 v2 h1;obtain ⟨e3,h3⟩:=key _ 3 v3 h2;obtain ⟨e4,h4⟩:=key _ 4 v4 h3;obtain ⟨e5,h5⟩:=key _ 5 v5 h4;rw [e5,e4,e3,e2,e1,e0]
theorem infoEnt:(Tryz.prog.info? 97).map (fun i=>(i.zero,i.size,i.bytes))=some (some (.agg #[.int .i64 0,.int .i64 0,.int .i64 0,.int .i64 0]),4,32):=by kernel_rfl
set_option maxHeartbeats 1000000 in
theorem Qoo (xA xB xC xQ xE:Value)(G:Option Addr)(L cg i c:Nat)(ar:List Tri) (ls:List (List Int)) (l:List Int) (x:Qak) (w:World) (h:RdG w G L (gatesOf ar ls)) (hl:ls[i]?=some l) (hx:(gateRow ar l)[c]?=some x) (hL:L≤1000000) (hc:c≤1000000) :
 Calls prog 100 #[.agg #[xA,xB,xC,xQ,.slice G L cg,xE],.int .i64 ((i:Int)+1),.int .i64 c] w fun e w'=>∃ A1 n1 c1 A2 n2 c2,e=.returned (.agg #[.slice A1 n1 c1,.slice A2 n2 c2])∧RdI w' A1 n1 x.1∧RdI w' A2 n2 x.2∧Below w.heap.size w w':=by
 have hiL:i<L:=by
  rw [←h.1];unfold gatesOf;rw [List.length_map];exact (Zs hl).1
 obtain ⟨row,b,o,A',n',c',hrow,rfl,g1,g2,g3⟩:=h.at_ hiL
 have hrow':row=gateRow ar l:=by
  unfold gatesOf at hrow;rw [Yt,hl] at hrow;exact (Yv hrow).symm
 subst hrow';have hcn:c<n':=by rw [←g2.1];exact (Zs hx).1
 obtain ⟨x',rb,ro,A1,n1,c1,A2,n2,c2,hx',rfl,k1,k2,k3,k4,k5⟩:=g2.at_ hcn;rw [hx] at hx'
 cases hx'
 have HK2:=Zh k2;have HK4:=Zh k4;have i1:¬((i:Int)+1<1):=by omega
 have i2:¬((i:Int)+1 > (L:Int)):=by omega
 have i3:¬((c:Int)<0):=by omega
 have i4:¬((n':Int)≤(c:Int)):=by omega
 have i5:(i:Int)+1-1=(i:Int):=by omega
 have i6:(i:Int)<(L:Int):=by omega
 have i7:(0:Int)≤(i:Int):=by omega
 have i8:(c:Int)<(n':Int):=by omega
 have i9:(0:Int)≤(c:Int):=by omega
 have wl:IntKind.i64.wrap (i:Int)=(i:Int):=IntWalk.i64_in _ (by omega);have z1:=Qae g1;have z2:=Qae k1;simp only at z1 z2;obtain ⟨w1,hw1⟩:∃ w1,w1=(w.alloc (.cells #[xA,xB,xC,xQ,.slice (some ⟨b,o,none⟩) L cg,xE] 38)).alloc (.cells #[.slice none 0 0,.slice none 0 0] 95):=⟨_,rfl⟩;have hb1:Below w.heap.size w w1:=by rw [hw1];exact Qaf
 have g1':=Zc hb1 (Zn _) g1;have k1':=Zc hb1 (Zn _) k1;have k3':=Zc hb1 (Zn _) k3;rw [hw1] at g1' k1' k3';clear h hl hx hrow g1 g2 k1 k2 k3 k4 k5 hw1 hb1
 go_enter func100,ntmps100
 go_wp2_with fail
 obtain ⟨w2,hw2⟩:∃ w2,w2=(w.alloc (.cells #[xA,xB,xC,xQ,.slice (some ⟨b,o,none⟩) L cg,xE] 38)).alloc (.cells #[.slice A1 n1 c1,.slice A2 n2 c2] 95):=⟨_,rfl⟩;rw [←hw2];have hb2:Below w.heap.size w w2:=by rw [hw2];exact Qaf
 have hB2:Blk w2 (w.heap.size+1) 95 #[.slice A1 n1 c1,.slice A2 n2 c2]:=by
  rw [hw2];refine Blk.new' _ _ _ ?_;simp
 clear hw2 g1' k1' k3';obtain ⟨c0,c1',f0,f1⟩:=hB2.two;refine bodyPost_ret (v:=.agg #[.slice A1 n1 c1,.slice A2 n2 c2]) (by simp [results,results100,go_sem,c0,c1']) rfl ?_;exact ⟨_,_,_,_,_,⟨_,rfl⟩,HK2.out.below hb2,HK4.out.below hb2,hb2⟩
set_option maxHeartbeats 1000000 in
theorem Qoh (A B:Option Addr)(n c d:Nat) (l:List (List Bool)) (w:World) (h:RdQ w A n l) (h2:RdQ w B n l) (hn:n≤1000000) (hc:∀ r∈l,r.length≤1000000) :
 Calls prog 15 #[.slice A n c,.slice B n d] w fun e w'=>e=.returned (.bool true)∧Below w.heap.size w w':=by
 have HT:=Zh h;have HT2:=Zh h2;have HC:=Zh hc;have e0:((n:Int) != (n:Int))=false:=by simp
 clear h h2 hc
 go_enter func15,ntmps15
 go_wp2_with fail
 go_loopw [5] (fun q W=>Below w.heap.size w W∧∃ i:Nat,i≤n∧q=.int .i64 (i:Int)) (fun q _=>n-(intOf q).toNat)
 case atStart=>exact ⟨Zr _ _,0,Nat.zero_le _,rfl⟩
 case round =>
  obtain ⟨hbl,i,hi,rfl⟩:=hrel
  by_cases hlt:i<n
  · obtain ⟨b,o,A1,n1,c1,r,rfl,hl,hcl,hr,_,_⟩:=(HT.out.below hbl).at_ hlt
    obtain ⟨b2,o2,A2,n2,c2,r2,rfl,hl2,hcl2,hr2,_,_⟩:=(HT2.out.below hbl).at_ hlt;rw [hl] at hl2
    cases hl2
    have hnn:n2=n1:=by rw [←hr.1,←hr2.1]
    subst hnn;have hn2:n2≤1000000000:=by have:=HC.out r (Zm hl);have:=hr.1;omega
    have HSI:=Zh (show ∀ V,Below wr.heap.size wr V→Calls prog 45 #[.slice A1 n2 c1,.slice A2 n2 c2] V fun e w'=>e=.returned (.bool true)∧∃ k,w'=V.drewN k from fun V hV=>Qmx A1 A2 n2 n2 c1 c2 r r V (hr.below hV) (hr2.below hV) hn2 rfl)
    have i1:(0:Int)≤(i:Int):=by omega
    have i2:(i:Int)<(n:Int):=by omega
    clear hr hr2 hl
    go_wp2_with fail
    go_quiet ((go_at_call 45;exact Qsf (HSI.out _ Qaf)))
    go_wp2_with fail
    go_roundw
    case rel=>exact ⟨Qaw hbl _,i+1,by omega,by go_num⟩
    case measure=>simp [intOf];omega
  · obtain rfl:n=i:=by omega
    go_wp2_with fail
    go_ret
    exact ⟨rfl,hbl⟩
set_option maxHeartbeats 1000000 in
theorem Qtz (A:Option Addr)(n c:Nat) (l:List (List Bool)) (w:World) (h:RdQ w A n l) (hn:n≤1000000) (hc:∀ r∈l,r.length≤1000000) :
 Calls prog 26 #[.slice A n c] w fun e w'=>e=.returned (.int .i64 ((Qlv l:Nat):Int))∧w=w':=by
 have HT:=Zh h;have HC:=Zh hc;have HN:=Zh h.1;clear h hc
 go_enter func26,ntmps26
 go_wp2_with fail
 go_loopw [3,4] (fun z q W=>w=W∧∃ i k:Nat,i≤n∧q=.int .i64 (i:Int)∧z=.int .i64 (k:Int)∧k≤1000000*i∧k=Qlv (l.take i)) (fun _ q _=>n-(intOf q).toNat)
 case atStart=>exact ⟨rfl,0,0,Nat.zero_le _,rfl,rfl,by omega,by simp [Qlv]⟩
 case round =>
  obtain ⟨rfl,i,k,hi,rfl,rfl,hk1,hk⟩:=hrel;have HK:=Zh hk;clear hk
  by_cases hlt:i<n
  rotate_left
  · obtain rfl:i=n:=by omega
    have i3:¬((i:Int)<(i:Int)):=by omega
    go_wp2_with fail
    go_ret
    have e:=HK.out;rw [Ye (by rw [HN.out];exact Zn _)] at e;exact ⟨Qbu (by rw [e]),rfl⟩
  obtain ⟨b,o,A1,n1,c1,r,rfl,hl,hcl,hr,_,_⟩:=HT.out.at_ hlt;have hr6:=HC.out r (Zm hl);have hrn:=hr.1;rw [hrn] at hr6;have HR:=Zh hr;have HRN:=Zh hrn;have HX:=Zh (Qqh hl);have i1:(0:Int)≤(i:Int):=by omega
  have i2:(i:Int)<(n:Int):=by omega
  clear hr hl hrn
  go_wp2_with fail
  go_loopw [3,5] (fun z q W=>w=W∧∃ j k:Nat,j≤n1∧q=.int .i64 (j:Int)∧z=.int .i64 (k:Int)∧k≤1000000*i+j∧k=Qlv (l.take i)+Qtx (r.take j)) (fun _ q _=>n1-(intOf q).toNat)
  case atStart=>exact ⟨rfl,0,k,Nat.zero_le _,rfl,rfl,by omega,by rw [HK.out];simp [Qtx]⟩
  case round =>
   clear HK hk1;obtain ⟨rfl,j,k,hj,rfl,rfl,hk1,hk⟩:=hrel;have HK:=Zh hk;clear hk
   by_cases hlt2:j<n1
   rotate_left
   · obtain rfl:j=n1:=by omega
     have i3:¬((j:Int)<(j:Int)):=by omega
     have HK2:=Zh (show k=Qlv (l.take (i+1)) by rw [HX.out,HK.out,Ye (l:=r) (by rw [HRN.out];exact Zn _)])
     go_wp2_with fail
     go_roundw
     case rel=>exact ⟨by first|rfl|trivial,i+1,k,by omega,by go_num,rfl,by omega,HK2.out⟩
     case measure=>simp [intOf];omega
   obtain ⟨b3,o3,y,rfl,hy,cy⟩:=HR.out.at_ hlt2;have HY:=Zh (Qph hy);have j1:(0:Int)≤(j:Int):=by omega
   have j2:(j:Int)<(n1:Int):=by omega
   clear hy
   cases y with
   | true =>
    have HK2:=Zh (show k+1=Qlv (l.take i)+Qtx (r.take (j+1)) by rw [HY.out,HK.out];simp;omega)
    go_wp2_with fail
    go_roundw
    case rel=>exact ⟨by first|rfl|trivial,j+1,k+1,by omega,by go_num,by go_num,by omega,HK2.out⟩
    case measure=>simp [intOf];omega
   | false =>
    have HK2:=Zh (show k=Qlv (l.take i)+Qtx (r.take (j+1)) by rw [HY.out,HK.out];simp)
    go_wp2_with fail
    go_roundw
    case rel=>exact ⟨by first|rfl|trivial,j+1,k,by omega,by go_num,rfl,by omega,HK2.out⟩
    case measure=>simp [intOf];omega
def rcel (b:Nat)(r:List Bool):Value:=.slice (some ⟨b,0,none⟩) r.length r.length
theorem rcel_one (b:Nat)(r:List Bool):∀ u∈[rcel b r],u.oneCell'=true:=Qbz _ _ _
structure TlO (W:World) (B:Nat) (A:Option Addr) (n cp:Nat) (bs:List Nat) (rows:List (List Bool)):Prop where
 own:Own W B 80 1 A n cp (List.zipWith rcel bs rows)
 n1:bs.length=n
 n2:rows.length=n
 row:∀ (i b:Nat) (r:List Bool),bs[i]?=some b→rows[i]?=some r→Blk W b 4 (Qca r)
 blo:∀ b∈bs,B≤b∧Qaa A≠some b
 nd:bs.Nodup
section
variable {W W':World} {B n cp:Nat} {A:Option Addr} {bs:List Nat} {rows:List (List Bool)}
theorem TlO.start (W:World)(B:Nat):TlO W B none 0 0 [] []:=⟨Own.nil _ _ _ _,rfl,rfl,fun i b r h=>by simp at h,fun b h=>by simp at h,by simp⟩
theorem TlO.get (h:TlO W B A n cp bs rows){i:Nat}{r:List Bool} (hr:rows[i]?=some r):∃ b,bs[i]?=some b∧Blk W b 4 (Qca r)∧B≤b∧Qaa A≠some b∧∃ ab ao,A=some ⟨ab,ao,none⟩∧W.cell? ⟨ab,ao+i,none⟩=some (rcel b r):=by
 have hi:=(Zs hr).1;obtain ⟨b,hb⟩:∃ b,bs[i]?=some b:=⟨_,Zg (by rw [h.n1,←h.n2];exact hi)⟩;have h1:=h.blo b (Zm hb);obtain ⟨ab,ao,e,hc⟩:=h.own.rds.2 i (rcel b r) (by rw [List.getElem?_zipWith,hb,hr]);exact ⟨b,hb,h.row i b r hb hr,h1.1,h1.2,ab,ao,e,hc⟩
theorem TlO.below (h:TlO W B A n cp bs rows)(hb:Below W.heap.size W W'):TlO W' B A n cp bs rows :=
 ⟨h.own.below hb,h.n1,h.n2,fun i b r h1 h2=>(h.row i b r h1 h2).below hb (h.row i b r h1 h2).lt,h.blo,h.nd⟩
theorem TlO.rdQ (h:TlO W B A n cp bs rows)(hl:∀ r∈rows,r.length≤9223372036854775807):RdQ W A n rows :=
 ⟨h.n2,fun i r hr=>by
  obtain ⟨b,_,h2,_,_,ab,ao,e,hc⟩:=h.get hr;exact ⟨ab,ao,_,r.length,r.length,e,hc,h2.rdB rfl,Zn _,hl r (Zm hr)⟩⟩
theorem TlO.lt (h:TlO W B A n cp bs rows):∀ b∈bs,b<W.heap.size:=fun b hb=>by
 obtain ⟨i,hi⟩:=Yr hb;obtain ⟨q,hq⟩:∃ q,rows[i]?=some q:=⟨_,Zg (by rw [h.n2,←h.n1];exact (Zs hi).1)⟩;exact (h.row i b q hi hq).lt
theorem TlO.push {A':Option Addr}{c' rb:Nat}{r:List Bool}(h:TlO W B A n cp bs rows) (hr:Blk W rb 4 (Qca r)) (hB:B≤rb) (hnb:∀ b∈bs,b≠rb) (hnA:Qaa A≠some rb)
 (hown:Own W' B 80 1 A' (n+1) c' (List.zipWith rcel bs rows ++[rcel rb r])) (hg:W.grownBy W' (Qaa A)) (hat:Qaa A'=Qaa A∨Qaa A'=some W.heap.size):TlO W' B A' (n+1) c' (bs ++[rb]) (rows ++[r]):=by
 have hbl:=h.lt
 have hA':∀ b,b<W.heap.size→Qaa A≠some b→Qaa A'≠some b:=fun b h1 h2 e=>by
  rcases hat with hat|hat
  · exact h2 (hat▸e)
  · rw [hat] at e
    injection e with e
    omega
 refine ⟨by rw [List.zipWith_append (by rw [h.n1,h.n2])];exact hown,by simp [h.n1],by simp [h.n2],fun i b q h1 h2=>?_,fun b hb=>?_,?_⟩
 · rcases Nat.lt_trichotomy i n with e|e|e
   · rw [Yc (by rw [h.n1];exact e)] at h1
     rw [Yc (by rw [h.n2];exact e)] at h2;exact (h.row i b q h1 h2).grown hg (h.blo b (Zm h1)).2
   · subst e
     rw [Yb (by rw [h.n1];exact Zn _),h.n1,Yy] at h1;rw [Yb (by rw [h.n2];exact Zn _),h.n2,Yy] at h2
     cases h1
     cases h2
     exact hr.grown hg hnA
   · rw [Yd (by simp [h.n2];omega)] at h2;cases h2
 · rcases List.mem_append.1 hb with hb|hb
   · exact ⟨(h.blo b hb).1,hA' b (hbl b hb) (h.blo b hb).2⟩
   · rw [List.mem_singleton.1 hb]
     exact ⟨hB,hA' rb hr.lt hnA⟩
 · rw [List.nodup_append]
   exact ⟨h.nd,by simp,fun a ha b hb e=>hnb a ha (by rw [e,List.mem_singleton.1 hb])⟩
end
def DrP (w:World)(L:Nat) (rows:List (List Bool)) (r:Ending) (w':World):Prop:=∃ R cr,r=.returned (.slice R L cr)∧RdQ w' R L rows∧Below w.heap.size w w'
theorem Qno:gateRow Qbv.ar [0,0,1]=[([2],[1]),([1],[2])]:=by decide
theorem k_gr2:gateRow Qbv.ar [0,0,0]=[([],[])]:=by decide
theorem Qlc:gatesOf Qbv.ar Qiz=[[([2],[1]),([1],[2])],[([],[])]]:=by
 unfold gatesOf Qiz;rw [List.map_cons,List.map_cons,List.map_nil,Qno,k_gr2]
theorem Qpt:Qbr (gatesOf Qbv.ar Qiz)=2:=by rw [Qlc];decide
theorem k_lt {a:Nat}{y:Tri} (h:Qbv.ar[a]?=some y):a=0∧y=(0,1,10)∨a=1∧y=(1,2,20)∨a=2∧y=(2,0,30)∨a=3∧y=(1,0,40):=by
 match a,h with
 | 0,h=>cases h;exact .inl ⟨rfl,rfl⟩
 | 1,h=>cases h;exact .inr (.inl ⟨rfl,rfl⟩)
 | 2,h=>cases h;exact .inr (.inr (.inl ⟨rfl,rfl⟩))
 | 3,h=>cases h;exact .inr (.inr (.inr ⟨rfl,rfl⟩))
 | k+4,h=>simp [Qbv] at h
theorem k_t01:Qal Qbv 0 1=1:=by decide
theorem k_t12:Qal Qbv 1 2=2:=by decide
theorem k_turn {a b:Nat}(h:Qal Qbv a b≠1152921504606846976):a=2∧b=0∨a=0∧b=1∨a=0∧b=3∨a=1∧b=2:=by
 obtain ⟨x,y,hx,hy,e⟩:=Qbo h
 rcases k_lt hx with ⟨rfl,rfl⟩|⟨rfl,rfl⟩|⟨rfl,rfl⟩|⟨rfl,rfl⟩ <;> rcases k_lt hy with ⟨rfl,rfl⟩|⟨rfl,rfl⟩|⟨rfl,rfl⟩|⟨rfl,rfl⟩ <;>
  first
  | exact absurd e (by decide)
  | exact .inl ⟨rfl,rfl⟩
  | exact .inr (.inl ⟨rfl,rfl⟩)
  | exact .inr (.inr (.inl ⟨rfl,rfl⟩))
  | exact .inr (.inr (.inr ⟨rfl,rfl⟩))
  | exact absurd (by decide) h
theorem k_ent1:Qgr Qbv (Qcw [0,0,1] 0) 2 1 11:=by
 have hr:∀ p c,Rch (StA Qbv (Qcw [0,0,1] 0)) 2 p c→p=2∧c=0∨p=0∧c=10∨p=3∧c=55:=by
  intro p c h
  induction h with
  | start=>exact .inl ⟨rfl,rfl⟩
  | step _ h2 ih =>
   obtain ⟨y,hy,h3,_,h4,h5,rfl⟩:=h2
   rcases k_turn h3 with ⟨rfl,rfl⟩|⟨rfl,rfl⟩|⟨rfl,rfl⟩|⟨rfl,rfl⟩
   · cases hy
     refine .inr (.inl ⟨rfl,?_⟩)
     rcases ih with ⟨_,rfl⟩|⟨h,_⟩|⟨h,_⟩
     · decide
     · exact absurd h (by decide)
     · exact absurd h (by decide)
   · cases hy
     exact absurd h5 (by decide)
   · cases hy
     refine .inr (.inr ⟨rfl,?_⟩)
     rcases ih with ⟨h,_⟩|⟨_,rfl⟩|⟨h,_⟩
     · exact absurd h (by decide)
     · decide
     · exact absurd h (by decide)
   · cases hy
     exact absurd h4 (by decide)
 refine .inl ⟨⟨0,10,1,?_,⟨by decide,by decide⟩,rfl⟩,fun v hv=>?_⟩
 · exact Rch.start.step (show StA Qbv (Qcw [0,0,1] 0) 2 0 10 from ⟨(0,1,10),rfl,by decide,by decide,by decide,by decide,by decide⟩)
 · obtain ⟨p,c,d,h1,⟨h2,rfl⟩,rfl⟩:=hv
   rcases hr p c h1 with ⟨rfl,rfl⟩|⟨rfl,rfl⟩|⟨rfl,rfl⟩
   · exact absurd (by decide) h2
   · rw [k_t01];decide
   · exact absurd (by decide) h2
theorem k_ent2:Qgr Qbv (Qcw [0,0,1] 1) 1 2 2:=by
 have hr:∀ p c,Rch (StA Qbv (Qcw [0,0,1] 1)) 1 p c→p=1∧c=0:=by
  intro p c h
  induction h with
  | start=>exact ⟨rfl,rfl⟩
  | step _ h2 ih =>
   obtain ⟨y,hy,h3,_,h4,h5,rfl⟩:=h2
   rcases k_turn h3 with ⟨rfl,rfl⟩|⟨rfl,rfl⟩|⟨rfl,rfl⟩|⟨rfl,rfl⟩ <;> cases hy
   · exact absurd h4 (by decide)
   · exact absurd h4 (by decide)
   · exact absurd h4 (by decide)
   · exact absurd h5 (by decide)
 refine .inl ⟨⟨1,0,2,.start,⟨by decide,by decide⟩,rfl⟩,fun v hv=>?_⟩;obtain ⟨p,c,d,h1,⟨h2,rfl⟩,rfl⟩:=hv;obtain ⟨rfl,rfl⟩:=hr p c h1;rw [k_t12]
 decide
theorem k_all:Qfd Qbv Qiz [11,2]:=by
 refine ⟨by rw [Qpt];rfl,fun k v hk=>?_⟩
 match k,hk with
 | 0,hk =>
  cases hk
  exact ⟨0,[0,0,1],0,([2],[1]),0,0,2,1,⟨rfl,by rw [Qno];rfl,rfl,rfl,by rw [Qlc,Qno];decide⟩,k_ent1⟩
 | 1,hk =>
  cases hk
  exact ⟨0,[0,0,1],1,([1],[2]),0,0,1,2,⟨rfl,by rw [Qno];rfl,rfl,rfl,by rw [Qlc,Qno];decide⟩,k_ent2⟩
 | k+2,hk=>simp at hk
theorem k_part:Qbw Qbv.vs.length Qiz:=twoL_ok
def Qdr:Qai:=Qbv.setW 0 0 1 30
def ch30:List Chn:=[(1,0,0,0,30)]
theorem Qxs:Qcj Qbv ch30:=⟨fun c hc=>by
 obtain rfl:c=(1,0,0,0,30):=by simpa [ch30] using hc
 exact .inl ⟨0,rfl,rfl,rfl,rfl,by decide,by decide⟩,by simp [ch30]⟩
theorem Qeu:Kin Qbv Qdr:=(Qdj Qxs).kin
theorem m_lt {a:Nat}{y:Tri} (h:Qdr.ar[a]?=some y):a=0∧y=(0,1,30)∨a=1∧y=(1,2,20)∨a=2∧y=(2,0,30)∨a=3∧y=(1,0,40):=by
 match a,h with
 | 0,h=>cases h;exact .inl ⟨rfl,rfl⟩
 | 1,h=>cases h;exact .inr (.inl ⟨rfl,rfl⟩)
 | 2,h=>cases h;exact .inr (.inr (.inl ⟨rfl,rfl⟩))
 | 3,h=>cases h;exact .inr (.inr (.inr ⟨rfl,rfl⟩))
 | k+4,h=>simp [Qdr,Qbv,Qai.setW] at h
theorem m_turn {a b:Nat}(h:Qal Qdr a b≠1152921504606846976):a=2∧b=0∨a=0∧b=1∨a=0∧b=3∨a=1∧b=2:=by
 obtain ⟨x,y,hx,hy,e⟩:=Qbo h
 rcases m_lt hx with ⟨rfl,rfl⟩|⟨rfl,rfl⟩|⟨rfl,rfl⟩|⟨rfl,rfl⟩ <;> rcases m_lt hy with ⟨rfl,rfl⟩|⟨rfl,rfl⟩|⟨rfl,rfl⟩|⟨rfl,rfl⟩ <;>
  first
  | exact absurd e (by decide)
  | exact .inl ⟨rfl,rfl⟩
  | exact .inr (.inl ⟨rfl,rfl⟩)
  | exact .inr (.inr (.inl ⟨rfl,rfl⟩))
  | exact .inr (.inr (.inr ⟨rfl,rfl⟩))
  | exact absurd (by decide) h
theorem m_t01:Qal Qdr 0 1=1:=by decide
theorem m_ent1:Qgr Qdr (Qcw [0,0,1] 0) 2 1 31:=by
 have hr:∀ p c,Rch (StA Qdr (Qcw [0,0,1] 0)) 2 p c→p=2∧c=0∨p=0∧c=30∨p=3∧c=75:=by
  intro p c h
  induction h with
  | start=>exact .inl ⟨rfl,rfl⟩
  | step _ h2 ih =>
   obtain ⟨y,hy,h3,_,h4,h5,rfl⟩:=h2
   rcases m_turn h3 with ⟨rfl,rfl⟩|⟨rfl,rfl⟩|⟨rfl,rfl⟩|⟨rfl,rfl⟩
   · cases hy
     refine .inr (.inl ⟨rfl,?_⟩)
     rcases ih with ⟨_,rfl⟩|⟨h,_⟩|⟨h,_⟩
     · decide
     · exact absurd h (by decide)
     · exact absurd h (by decide)
   · cases hy
     exact absurd h5 (by decide)
   · cases hy
     refine .inr (.inr ⟨rfl,?_⟩)
     rcases ih with ⟨h,_⟩|⟨_,rfl⟩|⟨h,_⟩
     · exact absurd h (by decide)
     · decide
     · exact absurd h (by decide)
   · cases hy
     exact absurd h4 (by decide)
 refine .inl ⟨⟨0,30,1,?_,⟨by decide,by decide⟩,rfl⟩,fun v hv=>?_⟩
 · exact Rch.start.step (show StA Qdr (Qcw [0,0,1] 0) 2 0 30 from ⟨(0,1,30),rfl,by decide,by decide,by decide,by decide,by decide⟩)
 · obtain ⟨p,c,d,h1,⟨h2,rfl⟩,rfl⟩:=hv
   rcases hr p c h1 with ⟨rfl,rfl⟩|⟨rfl,rfl⟩|⟨rfl,rfl⟩
   · exact absurd (by decide) h2
   · rw [m_t01];decide
   · exact absurd (by decide) h2
theorem m_t12:Qal Qdr 1 2=2:=by decide
theorem m_ent2:Qgr Qdr (Qcw [0,0,1] 1) 1 2 2:=by
 have hr:∀ p c,Rch (StA Qdr (Qcw [0,0,1] 1)) 1 p c→p=1∧c=0:=by
  intro p c h
  induction h with
  | start=>exact ⟨rfl,rfl⟩
  | step _ h2 ih =>
   obtain ⟨y,hy,h3,_,h4,h5,rfl⟩:=h2
   rcases m_turn h3 with ⟨rfl,rfl⟩|⟨rfl,rfl⟩|⟨rfl,rfl⟩|⟨rfl,rfl⟩ <;> cases hy
   · exact absurd h4 (by decide)
   · exact absurd h4 (by decide)
   · exact absurd h4 (by decide)
   · exact absurd h5 (by decide)
 refine .inl ⟨⟨1,0,2,.start,⟨by decide,by decide⟩,rfl⟩,fun v hv=>?_⟩;obtain ⟨p,c,d,h1,⟨h2,rfl⟩,rfl⟩:=hv;obtain ⟨rfl,rfl⟩:=hr p c h1;rw [m_t12]
 decide
theorem m_all:Qfd Qdr Qiz [31,2]:=by
 have e1:gatesOf Qdr.ar Qiz=gatesOf Qbv.ar Qiz:=Qeu.al.gatesOf _;have e2:∀ l,gateRow Qdr.ar l=gateRow Qbv.ar l:=fun l=>Qeu.al.gateRow l
 refine ⟨by rw [e1,Qpt];rfl,fun k v hk=>?_⟩
 match k,hk with
 | 0,hk =>
  cases hk
  exact ⟨0,[0,0,1],0,([2],[1]),0,0,2,1,⟨rfl,by rw [e2,Qno];rfl,rfl,rfl,by rw [e1,e2,Qlc,Qno];decide⟩,m_ent1⟩
 | 1,hk =>
  cases hk
  exact ⟨0,[0,0,1],1,([1],[2]),0,0,1,2,⟨rfl,by rw [e2,Qno];rfl,rfl,rfl,by rw [e1,e2,Qlc,Qno];decide⟩,m_ent2⟩
 | k+2,hk=>simp at hk
theorem Qgq {l:List Int}{j:Nat}{x:Int} (h:l[j]?=some x):Qad (l.take (j+1))=Qad (l.take j) ++Qad [x]:=by
 rw [Yf (Zs h).1,(Zs h).2,Qbi]
set_option maxHeartbeats 4000000 in
set_option maxRecDepth 20000 in
theorem Qtu (g:Nat)(N:Qai)(Q:Option Addr)(L cq n:Nat) (ls:List (List Int)) (w:World) (h:Qgm w g N) (hN:Qav N) (hq:RdT w Q L ls) (hP:Qbw n ls) (hn:N.vs.length=n) :
 Calls prog 35 #[.pointer (some ⟨g,0,none⟩),.agg #[.slice Q L cq]] w fun e w'=>∃ o,e=.returned (.tuple #[.pointer (some ⟨o,0,none⟩),.nilIface])∧Qfm (msk w' (fun b=>w.heap.size≤b∧b<w'.heap.size)) o N.ar ls∧Below w.heap.size w w':=by
 have HG:=Zh h;have HN:=Zh hN;have HT:=Zh hq;have HP:=Zh hP;have HVN:=Zh hn;have hn4:n≤4096:=by rw [←hn];exact hN.lv
 have HM:=Zh hN.la;have l6:L≤6:=by rw [←hq.1];exact hP.l6
 clear h hN hq hP hn
 go_enter func35,ntmps35
 go_wp2_with fail
 (refine Qag ?_;intro w1 hw1)
 have hb1:Below w.heap.size w w1:=by rw [hw1];exact Qaf
 have hQ:Blk w1 w.heap.size 89 #[.slice Q L cq]:=by rw [hw1];exact Qaz
 have hzz1:w.heap.size+1≤w1.heap.size:=by rw [hw1];simp
 clear hw1
 have HSX:=Zh (show ∀ V,Below w1.heap.size w1 V→V.cell? ⟨w.heap.size,0,none⟩=some (.slice Q L cq) from fun V hV=>by
  have:=(hQ.below hV hQ.lt).cell 0
  simpa using this)
 refine wp_region_held_drew (S:=fun V=>Below w1.heap.size w1 V) (by kernel_rfl) (Zr _ _).drew (fun _=>?_);refine tz 0 14 ?_;refine tz 2 16 ?_;refine Zk 1 (fun K hK=>?_);go_simp;with_reducible refine (Qii g N _ (HG.out.below (show Below w.heap.size w w1.drew from Qaf))).mono ?_
 rintro e w' ⟨rfl,rfl⟩;rw [HVN.out]
 go_wp2_with fail
 refine hK.out _ _ (Zr _ _).drew (fun _=>?_);clear hK K;refine Zk 3 (fun K hK=>?_);go_simp;with_reducible refine (Qjc Q n L cq ls _ (HT.out.below (show Below w.heap.size w w1.drew from Qaf)) HP.out hn4).mono ?_
 rintro e w2 ⟨rfl,hb2⟩;have hb12:Below w1.heap.size w1 w2:=Zb Qaf hb2;clear hb2
 go_wp2_with fail
 refine hK.out _ _ hb12 (fun _=>?_);clear hK K;refine tz 4 6 ?_;refine Zd ?_;have hbw2:=Zb hb1 hb12
 go_wp2_with fail
 refine wp_region_held_drew (S:=fun V=>Below w1.heap.size w1 V) (by kernel_rfl) hb12.drew (fun _=>?_);refine tz 0 21 ?_;refine tz 2 23 ?_;refine tz 3 24 ?_;refine Zk 1 (fun K hK=>?_);go_simp;with_reducible refine (Qsq Q L cq ls _ (HT.out.below (show Below w.heap.size w w2.drew from Qaf)) (by omega) (fun l hl=>by have:=(HP.out.lvl l hl).len;omega)).mono ?_
 rintro e w3 ⟨Q3,cq3,rfl,hq3,hq3a,hq3b,hb3⟩;have hb23:Below w2.heap.size w2 w3:=(Zr _ w2).drew.trans hb3;have hq3:RdT (msk w3 (fun b=>w2.heap.size≤b∧b<w3.heap.size)) Q3 L ls:=hq3;have hb13:Below w1.heap.size w1 w3:=Zb hb12 hb23;have hbw3:=Zb hbw2 hb23;clear hb3
 go_wp2_with fail
 refine hK.out _ _ hb13 (fun _=>?_);clear hK K;refine Zk 4 (fun K hK=>?_);go_simp;with_reducible refine (Qzb g N Q L cq n ls w3 (HG.out.below hbw3) HN.out (HT.out.below hbw3) HP.out HVN.out).mono ?_
 rintro e w4 ⟨G4,rfl,hg4,hb4⟩;have hb14:Below w1.heap.size w1 w4:=Zb hb13 hb4;have hbw4:=Zb hbw3 hb4
 go_wp2_with fail
 refine hK.out _ _ hb14 (fun _=>?_);clear hK K;refine tz 5 26 ?_;refine Zk 6 (fun K hK=>?_);go_simp;refine hK.out _ _ (Bel.alloc hb14) (fun _=>?_);clear hK K;refine tz 7 7 ?_;refine Zd ?_;obtain ⟨w5,hw5⟩:∃ w5,w5=w4.alloc (.cells #[.slice Q3 L cq3,.slice none 0 0,.slice none 0 0,.slice G4 L L,.slice none 0 0,.int .i64 0] 157):=⟨_,rfl⟩;rw [←hw5];have hb45:Below w4.heap.size w4 w5:=by rw [hw5];exact Qaf
 have hO5:Blk w5 w4.heap.size 157 #[.slice Q3 L cq3,.slice none 0 0,.slice none 0 0,.slice G4 L L,.slice none 0 0,.int .i64 0]:=by rw [hw5];exact Blk.new _ _ _
 have hz5:w5.heap.size=w4.heap.size+1:=by rw [hw5];simp
 clear hw5 HSX hQ;have hz12:=hb12.size;have hz23:=hb23.size;have hz34:=hb4.size;have HQ4:=Zh (show RdT (msk w4 (fun b=>w.heap.size≤b∧b<w4.heap.size)) Q3 L ls from hq3.le (Le.trans (Qax.msk (Qax.below hb4 |>.mono (fun b hb=>hb))) (Qay (fun b hb=>⟨by omega,by omega⟩))))
 have HG4:=Zh (show RdG (msk w4 (fun b=>w.heap.size≤b∧b<w4.heap.size)) G4 L (gatesOf N.ar ls) from hg4.le (Qay (fun b hb=>⟨by omega,hb.2⟩)))
 have HCQ:=Zh (And.intro hq3a hq3b);clear hq3 hg4 hb4 hb23 hb12 hb13 hb14 hbw2 hbw3 hq3a hq3b
 go_wp2_with fail
 with_reducible refine (Qhk g N w5 (HG.out.below (Zb hbw4 hb45))).mono ?_
 rintro e w' ⟨rfl,rfl⟩;have hm:N.ar.length≤16384:=HM.out;generalize hMM:N.ar.length=M at *;have HML:=Zh hMM;clear hMM
 go_wp2_with fail
 go_loopw [30] (fun q W=>w4.heap.size+1≤W.heap.size∧Below w4.heap.size w4 W∧∃ (j:Nat) (F:Option Addr) (cF:Nat) (T:Option Addr) (cT:Nat),j≤M∧q=.int .i64 j∧Blk W w4.heap.size 157 #[.slice Q3 L cq3,.slice F j cF,.slice T j cT,.slice G4 L L,.slice none 0 0,.int .i64 0]∧Own W (w4.heap.size+1) 3 1 F j cF (Qad ((N.ar.map (·.1)).take j))∧Own W (w4.heap.size+1) 3 1 T j cT (Qad ((N.ar.map (·.2.1)).take j))∧Dj F T) (fun q _=>M-(intOf q).toNat)
 case atStart=>exact ⟨by omega,hb45,0,none,0,none,0,Nat.zero_le _,rfl,hO5,Own.nil _ _ _ _,Own.nil _ _ _ _,.inl rfl⟩
 case round =>
  clear hb45 hO5 hz5;obtain ⟨hzwr,hbwr,j,F,cF,T,cT,hj,rfl,hOwr,hoF,hoT,hdj⟩:=hrel
  by_cases hlt:j<M
  · obtain ⟨⟨x,y,z⟩,hx⟩:∃ x,N.ar[j]?=some x:=⟨_,Zg (by rw [HML.out];exact hlt)⟩
    have HNF:=Zh (Qgq (l:=N.ar.map (·.1)) (j:=j) (x:=x) (by rw [Yt,hx];rfl));have HNT:=Zh (Qgq (l:=N.ar.map (·.2.1)) (j:=j) (x:=y) (by rw [Yt,hx];rfl));have HFR:=Zh (show ∀ V,Below w4.heap.size w4 V→Calls prog 56 #[.pointer (some ⟨g,0,none⟩),.int .i64 j] V fun e w'=>e=.returned (.int .i64 x)∧V=w' from fun V hV=>Qhr g j N _ V (HG.out.below (Zb hbw4 hV)) hx)
    have HTO:=Zh (show ∀ V,Below w4.heap.size w4 V→Calls prog 57 #[.pointer (some ⟨g,0,none⟩),.int .i64 j] V fun e w'=>e=.returned (.int .i64 y)∧V=w' from fun V hV=>Qlz g j N _ V (HG.out.below (Zb hbw4 hV)) hx)
    have i1:(0:Int)≤(j:Int):=by omega
    have i2:(j:Int)<(M:Int):=by omega
    clear hx
    go_wp2_with fail
    refine wp_region_held_drew (S:=fun V=>Below w4.heap.size w4 V) (by kernel_rfl) hbwr.drew (fun _=>?_);refine tz 0 33 ?_;refine tz 1 34 ?_;refine tz 2 35 ?_;refine tz 3 36 ?_;refine tz 5 38 ?_;refine tz 6 39 ?_;refine wpAnyH_ready (rs:=[4,7]) (by kernel_rfl) (by simp) ?_;refine AllReadyH.cons (o:=_) rfl (fun K hK=>?_) (AllReadyH.cons (o:=_) rfl (fun K hK=>?_) AllReadyH.nil)
    focus
     obtain ⟨o0,o1,o2,o3,o4,o5⟩:=hOwr.six;go_simp;refine hK.out _ _ hbwr.drew (fun _=>?_);clear hK K o0 o1 o2 o3 o4 o5;refine Zk 7 (fun K hK=>?_);go_simp;with_reducible refine (HFR.out _ hbwr.drew).mono ?_
     rintro e w' ⟨rfl,rfl⟩
     go_wp2_with fail
     refine hK.out _ _ hbwr.drew (fun _=>?_);clear hK K;refine Zk 8 (fun K hK=>?_);go_simp;refine hK.out _ _ ((hbwr.alloc (by omega) _).drew) (fun _=>?_);clear hK K
    rotate_left
    focus
     go_simp;with_reducible refine (HFR.out _ hbwr.drew).mono ?_
     rintro e w' ⟨rfl,rfl⟩
     go_wp2_with fail
     refine hK.out _ _ hbwr.drew (fun _=>?_);clear hK K;refine wpAnyH_ready (rs:=[4,8]) (by kernel_rfl) (by simp) ?_;refine AllReadyH.cons (o:=_) rfl (fun K hK=>?_) (AllReadyH.cons (o:=_) rfl (fun K hK=>?_) AllReadyH.nil)
     focus
      obtain ⟨o0,o1,o2,o3,o4,o5⟩:=hOwr.six;go_simp;refine hK.out _ _ hbwr.drew (fun _=>?_);clear hK K o0 o1 o2 o3 o4 o5;refine Zk 8 (fun K hK=>?_);go_simp;refine hK.out _ _ ((hbwr.alloc (by omega) _).drew) (fun _=>?_);clear hK K
     rotate_left
     focus
      go_simp;refine hK.out _ _ ((hbwr.alloc (by omega) _).drew) (fun _=>?_);clear hK K;have o1:=fun ob=>(hOwr.alloc ob).six.2.1
      have o2:=fun ob=>(hOwr.alloc ob).six.2.2.1
      refine Zk 4 (fun K hK=>?_);go_simp;refine hK.out _ _ ((hbwr.alloc (by omega) _).drew) (fun _=>?_);clear hK K o1 o2
    all_goals
     obtain ⟨WA,hWA⟩:∃ WA,WA=(wr.alloc (.cells #[.int .i64 x] 3)).drew:=⟨_,rfl⟩;rw [←hWA];have hbA:Below wr.heap.size wr WA:=by rw [hWA];exact Qaf
     have hrA:Rds WA 1 (some ⟨wr.heap.size,0,none⟩) 1 (Qad [x]):=by rw [hWA];exact (Blk.new wr 3 (Qcv [x])).rds rfl
     clear hWA;have hoA:=hoF.below hbA;have hoB:=hoT.below hbA;have hOA:=hOwr.below hbA hOwr.lt;have hb4A:Below w4.heap.size w4 WA:=hbwr.trans (hbA.mono (by omega));have hszA:w4.heap.size+1≤WA.heap.size:=Yx hzwr hbA.size;refine Zk 9 (fun K hK=>?_);with_reducible refine Qar (some 42) rfl rfl (.tmp 37) (.tmp 41) 93 rfl 3 _ 1 8 Qbk underlying93 rfl (by omega) rfl rfl hoA hrA (Qam _) (by omega) (by omega) (by omega) ?_
     intro F2 cF2 w' hown' hg hat;have hO':=hOA.grown hg (hoA.ne (by omega));have hoB':=hoB.far hg hdj.far;have hDJ:=hdj.next hoB hat;have hb4':Below w4.heap.size w4 w':=Zo hb4A hg (hoA.mono (by omega)) (by omega);have hz':=hg.size;clear hOA hoA hoB hrA hg hat hbA hb4A;refine hK.out _ _ hb4' (fun _=>?_);clear hK K;simp only [Act.put,Yi,Yj,Yk];refine tz 10 43 ?_;refine tz 11 44 ?_;obtain ⟨o0,o1,o2,o3,o4,o5⟩:=hO'.six;have of:=hO'.frozen 1;refine Zk 12 (fun K hK=>?_);go_simp;refine hK.out _ _ (hb4'.setCell (by simp) _) (fun _=>?_);clear hK K;refine Zd ?_;obtain ⟨W6,hwW6⟩:∃ W6,W6=w'.setCell ⟨w4.heap.size,1,none⟩ (.slice F2 (j+1) cF2):=⟨_,rfl⟩;rw [←hwW6];have hOW6:Blk W6 w4.heap.size 157 #[.slice Q3 L cq3,.slice F2 (j+1) cF2,.slice T j cT,.slice G4 L L,.slice none 0 0,.int .i64 0]:=by rw [hwW6];exact hO'.set_ 1 _
     have hoAW6:Own W6 (w4.heap.size+1) 3 1 F2 (j+1) cF2 (Qad ((N.ar.map (·.1)).take (j+1))):=by rw [hwW6,HNF.out];exact hown'.far (Qab _ _ _ _) (.inr (hown'.ne (by omega)))
     have hoBW6:=hoB'.far (Qab w' w4.heap.size 1 (.slice F2 (j+1) cF2)) (.inr (hoB'.ne (by omega)));rw [←hwW6] at hoBW6;have hbW6:Below w4.heap.size w4 W6:=by rw [hwW6];exact hb4'.setCell (by simp) _
     have hzW6:w4.heap.size+1≤W6.heap.size:=by rw [hwW6];simp [World.setCell];omega
     clear hwW6 hO' hoB' hown' hb4' o0 o1 o2 o3 o4 o5 of hOwr hoF hoT hbwr
     go_wp2_with fail
     refine wp_region_held_drew (S:=fun V=>Below w4.heap.size w4 V) (by kernel_rfl) hbW6.drew (fun _=>?_);refine tz 0 45 ?_;refine tz 1 46 ?_;refine tz 2 47 ?_;refine tz 3 48 ?_;refine tz 5 50 ?_;refine tz 6 51 ?_;refine wpAnyH_ready (rs:=[4,7]) (by kernel_rfl) (by simp) ?_;refine AllReadyH.cons (o:=_) rfl (fun K hK=>?_) (AllReadyH.cons (o:=_) rfl (fun K hK=>?_) AllReadyH.nil)
     focus
      obtain ⟨o0,o1,o2,o3,o4,o5⟩:=hOW6.six;go_simp;refine hK.out _ _ hbW6.drew (fun _=>?_);clear hK K o0 o1 o2 o3 o4 o5;refine Zk 7 (fun K hK=>?_);go_simp;with_reducible refine (HTO.out _ hbW6.drew).mono ?_
      rintro e w' ⟨rfl,rfl⟩
      go_wp2_with fail
      refine hK.out _ _ hbW6.drew (fun _=>?_);clear hK K;refine Zk 8 (fun K hK=>?_);go_simp;refine hK.out _ _ ((hbW6.alloc (by omega) _).drew) (fun _=>?_);clear hK K
     rotate_left
     focus
      go_simp;with_reducible refine (HTO.out _ hbW6.drew).mono ?_
      rintro e w' ⟨rfl,rfl⟩
      go_wp2_with fail
      refine hK.out _ _ hbW6.drew (fun _=>?_);clear hK K;refine wpAnyH_ready (rs:=[4,8]) (by kernel_rfl) (by simp) ?_;refine AllReadyH.cons (o:=_) rfl (fun K hK=>?_) (AllReadyH.cons (o:=_) rfl (fun K hK=>?_) AllReadyH.nil)
      focus
       obtain ⟨o0,o1,o2,o3,o4,o5⟩:=hOW6.six;go_simp;refine hK.out _ _ hbW6.drew (fun _=>?_);clear hK K o0 o1 o2 o3 o4 o5;refine Zk 8 (fun K hK=>?_);go_simp;refine hK.out _ _ ((hbW6.alloc (by omega) _).drew) (fun _=>?_);clear hK K
      rotate_left
      focus
       go_simp;refine hK.out _ _ ((hbW6.alloc (by omega) _).drew) (fun _=>?_);clear hK K;have o1:=fun ob=>(hOW6.alloc ob).six.2.1
       have o2:=fun ob=>(hOW6.alloc ob).six.2.2.1
       refine Zk 4 (fun K hK=>?_);go_simp;refine hK.out _ _ ((hbW6.alloc (by omega) _).drew) (fun _=>?_);clear hK K o1 o2
     all_goals
      obtain ⟨WA,hWA⟩:∃ WA,WA=(W6.alloc (.cells #[.int .i64 y] 3)).drew:=⟨_,rfl⟩;rw [←hWA];have hbA:Below W6.heap.size W6 WA:=by rw [hWA];exact Qaf
      have hrA:Rds WA 1 (some ⟨W6.heap.size,0,none⟩) 1 (Qad [y]):=by rw [hWA];exact (Blk.new W6 3 (Qcv [y])).rds rfl
      clear hWA;have hoA:=hoBW6.below hbA;have hoB:=hoAW6.below hbA;have hOA:=hOW6.below hbA hOW6.lt;have hb4A:Below w4.heap.size w4 WA:=hbW6.trans (hbA.mono (by omega));have hszA:w4.heap.size+1≤WA.heap.size:=Yx hzW6 hbA.size;refine Zk 9 (fun K hK=>?_);with_reducible refine Qar (some 54) rfl rfl (.tmp 49) (.tmp 53) 93 rfl 3 _ 1 8 Qbk underlying93 rfl (by omega) rfl rfl hoA hrA (Qam _) (by omega) (by omega) (by omega) ?_
      intro T2 cT2 w' hown' hg hat;have hO':=hOA.grown hg (hoA.ne (by omega));have hoB':=hoB.far hg hDJ.symm.far;have hDJ2:=hDJ.symm.next hoB hat;have hb4':Below w4.heap.size w4 w':=Zo hb4A hg (hoA.mono (by omega)) (by omega);have hz':=hg.size;clear hOA hoA hoB hrA hg hat hbA hb4A;refine hK.out _ _ hb4' (fun _=>?_);clear hK K;simp only [Act.put,Yi,Yj,Yk];refine tz 10 55 ?_;refine tz 11 56 ?_;obtain ⟨o0,o1,o2,o3,o4,o5⟩:=hO'.six;have of:=hO'.frozen 2;refine Zk 12 (fun K hK=>?_);go_simp;refine hK.out _ _ (hb4'.setCell (by simp) _) (fun _=>?_);clear hK K;refine Zd ?_;obtain ⟨W7,hwW7⟩:∃ W7,W7=w'.setCell ⟨w4.heap.size,2,none⟩ (.slice T2 (j+1) cT2):=⟨_,rfl⟩;rw [←hwW7];have hOW7:Blk W7 w4.heap.size 157 #[.slice Q3 L cq3,.slice F2 (j+1) cF2,.slice T2 (j+1) cT2,.slice G4 L L,.slice none 0 0,.int .i64 0]:=by rw [hwW7];exact hO'.set_ 2 _
      have hoAW7:Own W7 (w4.heap.size+1) 3 1 T2 (j+1) cT2 (Qad ((N.ar.map (·.2.1)).take (j+1))):=by rw [hwW7,HNT.out];exact hown'.far (Qab _ _ _ _) (.inr (hown'.ne (by omega)))
      have hoBW7:=hoB'.far (Qab w' w4.heap.size 2 (.slice T2 (j+1) cT2)) (.inr (hoB'.ne (by omega)));rw [←hwW7] at hoBW7;have hbW7:Below w4.heap.size w4 W7:=by rw [hwW7];exact hb4'.setCell (by simp) _
      have hzW7:w4.heap.size+1≤W7.heap.size:=by rw [hwW7];simp [World.setCell];omega
      clear hwW7 hO' hoB' hown' hb4' o0 o1 o2 o3 o4 o5 of hOW6 hoBW6 hoAW6 hbW6
      go_wp2_with fail
      go_roundw
      case rel=>exact ⟨hzW7,hbW7,j+1,F2,cF2,T2,cT2,by omega,by go_num,hOW7,hoBW7,hoAW7,hDJ2.symm⟩
      case measure=>simp [intOf];omega
  · obtain rfl:M=j:=by omega
    rw [Ye (by rw [List.length_map,HML.out];exact Zn _)] at hoF hoT;have HOF:=Zh hoF;have HOT:=Zh hoT;obtain ⟨o0,o1,o2,o3,o4,o5⟩:=hOwr.six;obtain ⟨wo,hwo⟩:∃ wo,wo=wr:=⟨_,rfl⟩;subst hwo;have hsA0:Qbr ((gatesOf N.ar ls).take 0)=0:=by simp [Qbr]
    have HS0:=Zh (show Blk wo w4.heap.size 157 #[.slice Q3 L cq3,.slice F M cF,.slice T M cT,.slice G4 L L,.slice none 0 0,.int .i64 ((Qbr ((gatesOf N.ar ls).take 0):Nat):Int)] by rw [hsA0];exact hOwr)
    clear hoF hoT hdj hsA0
    go_wp2_with fail
    clear o0 o1 o2 o3 o4 o5
    go_loopw [63] (fun q W=>wo.heap.size≤W.heap.size∧Below w4.heap.size w4 W∧Qax (fun b=>b≠w4.heap.size∧b<wo.heap.size) wo W∧∃ (i:Nat) (S:Option Addr) (cS:Nat) (xs:List Value),i≤L∧q=.int .i64 i∧Blk W w4.heap.size 157 #[.slice Q3 L cq3,.slice F M cF,.slice T M cT,.slice G4 L L,.slice S i cS,.int .i64 ((Qbr ((gatesOf N.ar ls).take i):Nat):Int)]∧RwL W wo.heap.size S i cS xs ((Quz (gatesOf N.ar ls)).take i)) (fun q _=>L-(intOf q).toNat)
    case atStart=>exact ⟨Zn _,hbwr,Qax.refl _ _,0,none,0,[],Nat.zero_le _,rfl,HS0.out,by simpa using RwL.nil _ _⟩
    case round =>
     clear hbwr hOwr HS0;obtain ⟨hzr,hbr,hkr,i,S,cS,xs,hi,rfl,hO,hRw⟩:=hrel
     by_cases hlt2:i<L
     · obtain ⟨row,gb,go_,Ag,ng,cg,hrow,rfl,hcg,hrc,hng,hcg2⟩:=(HG4.out.le (Qbh _ _)).at_ hlt2
       obtain ⟨l,hl,hrowl⟩:∃ l,ls[i]?=some l∧row=gateRow N.ar l:=by
        unfold gatesOf at hrow;rw [Yt] at hrow
        cases e:ls[i]? with
        | none=>rw [e] at hrow;cases hrow
        | some l=>rw [e] at hrow;cases hrow;exact ⟨l,rfl,rfl⟩
       have hlo:=HP.out.lvl l (Zm hl)
       have hnn:ng≤4096:=by
        rw [←hrc.1,hrowl,Qaq];have:=Qbq (l:=l) (n:=(n:Int)) (fun x hx=>hlo.hi x hx) (by omega);omega
       have hcg':=Zc hbr (Zn _) hcg;have HSB:=Zh (show ∀ k,Qda (row.take k)≤4096*268435456 from fun k=>by rw [hrowl];exact Qyy (by rw [HML.out];exact HM.out) hlo hn4)
       have HCB:=Zh (show ∀ (c:Nat) (x:Qak),row[c]?=some x→x.1.length≤16384∧x.2.length≤16384 from fun c x hx=>by
        have h0:=HM.out;rw [hrowl] at hx;have:=Qbn hx;rw [HML.out] at this;omega)
       have hsA:=sumA_le (ar:=N.ar) (ls:=ls) (i:=i) (by rw [HML.out];exact HM.out) HP.out hn4;have HSN:=Zh (Qck hrow);have HSG:=Zh (Qol hrow);have HRC:=Zh hrc;have HRL:=Zh hrc.1;generalize hss:Qbr ((gatesOf N.ar ls).take i)=sA at *;clear hss;have hmk:=Qdx ng (by omega);have i1:(0:Int)≤(i:Int):=by omega
       have i2:(i:Int)<(L:Int):=by omega
       obtain ⟨wi,hwi⟩:∃ wi,wi=wr:=⟨_,rfl⟩;subst hwi;clear hrow hcg hrc hng hlo hl hrowl
       go_wp2_with fail
       (refine Qag ?_;intro w7 hw7)
       have hb7:Below wi.heap.size wi w7:=by rw [hw7];exact Qaf
       have hB7:Blk w7 wi.heap.size 3 (Qcv ((Qhh sA row).take 0 ++List.replicate (ng-0) 0)):=by rw [hw7,List.take_zero,List.nil_append,Nat.sub_zero,←Qdh];exact Blk.new _ _ _
       have hz7:wi.heap.size+1=w7.heap.size:=by rw [hw7];simp
       clear hw7 hmk;have hO7:=hO.below hb7 hO.lt;have hz4i:=hO.lt
       go_loopw [72] (fun q W=>wi.heap.size+1≤W.heap.size∧Below w4.heap.size w4 W∧Qax (fun b=>b≠w4.heap.size∧b<wi.heap.size) wi W∧∃ k:Nat,k≤ng∧q=.int .i64 k∧Blk W w4.heap.size 157 #[.slice Q3 L cq3,.slice F M cF,.slice T M cT,.slice (some ⟨gb,go_,none⟩) L L,.slice S i cS,.int .i64 ((sA+Qda (row.take k):Nat):Int)]∧Blk W wi.heap.size 3 (Qcv ((Qhh sA row).take k ++List.replicate (ng-k) 0))) (fun q _=>ng-(intOf q).toNat)
       case atStart=>exact ⟨by omega,hbr.trans (hb7.mono (by omega)),Qax.below hb7,0,Nat.zero_le _,rfl,by simpa [Qda] using hO7,hB7⟩
       case round =>
        clear hB7 hO7 hz7 hb7;obtain ⟨hzk,hbk,hkk,k,hk,rfl,hOk,hBk⟩:=hrel
        by_cases hlt3:k<ng
        · obtain ⟨x,gb',go',A1,n1,c1,A2,n2,c2,hx,eg,cc1,hr1,cc2,hr2,_⟩:=HRC.out.at_ hlt3
          subst eg;have hb1:=HCB.out k x hx;have hn1:n1≤16384:=by rw [←hr1.1];exact hb1.1
          have hn2:n2≤16384:=by rw [←hr2.1];exact hb1.2
          have HSZ:=Zh (show Qda (row.take (k+1))=Qda (row.take k)+n1*n2 by
           rw [Qcl hx];unfold szG;rw [hr1.1,hr2.1])
          have hP:n1*n2≤268435456:=Yx (Nat.mul_le_mul hn1 hn2) (by omega);have hsk:=HSB.out k;have cc1':=Zc hbk (Zn _) cc1;have cc2':=Zc hbk (Zn _) cc2;have HSTN:=Zh (Qvs (s:=sA) (row:=row) (j:=k) (by rw [HRL.out];exact hlt3));rw [HRL.out] at HSTN;obtain ⟨v0,hv0⟩:∃ v,((Qhh sA row).take k ++List.replicate (ng-k) (0:Int))[k]?=some v:=⟨_,Zg (by rw [Yp,Yw,Qfc,HRL.out,List.length_replicate];omega)⟩;have cb:=hBk.cellI hv0;have cbf:=hBk.frozen k;have e1:(n1:Int)*(n2:Int)=((n1*n2:Nat):Int):=by simp
          generalize hPP:n1*n2=P at *;generalize hKK:Qda (row.take k)=K at *;clear hPP hKK;have HSTN2:=HSTN;clear HSTN;obtain ⟨Z,hZ⟩:∃ Z,Z=sA+K:=⟨_,rfl⟩;rw [←hZ] at HSTN2 hOk;have hZb:Z≤7*(4096*268435456):=by omega
          have HZ:=Zh hZ;clear hZ;have e2:IntKind.i64.wrap (P:Int)=(P:Int):=IntWalk.i64_in _ (by omega);have e3:IntKind.i64.wrap ((Z:Int)+(P:Int))=(Z:Int)+(P:Int):=IntWalk.i64_in _ (by omega);have HB2:=Zh (hBk.setI HSTN2.out);have j1:(0:Int)≤(k:Int):=by omega
          have j2:(k:Int)<(ng:Int):=by omega
          obtain ⟨W8,hW8⟩:∃ W8,W8=(wr.setCell ⟨wi.heap.size,k,none⟩ (.int .i64 (Z:Int))).alloc (.cells #[.slice A1 n1 c1,.slice A2 n2 c2] 105):=⟨_,rfl⟩;have hX8:Blk W8 wr.heap.size 105 #[.slice A1 n1 c1,.slice A2 n2 c2]:=by rw [hW8];exact Blk.new' _ _ _ (by simp [World.setCell])
          have hO8:Blk W8 w4.heap.size 157 #[.slice Q3 L cq3,.slice F M cF,.slice T M cT,.slice (some ⟨gb,go_,none⟩) L L,.slice S i cS,.int .i64 (Z:Int)]:=by rw [hW8];exact (hOk.far_ (by omega) _).alloc _
          have hB8:Blk W8 wi.heap.size 3 (Qcv ((Qhh sA row).take (k+1) ++List.replicate (ng-(k+1)) 0)):=by rw [hW8];exact HB2.out.alloc _
          have hb8:Below w4.heap.size w4 W8:=by rw [hW8];exact (hbk.setCell (by simp only;omega) _).alloc (by simp [World.setCell];omega) _
          have hk8:Qax (fun b=>b≠w4.heap.size∧b<wi.heap.size) wi W8:=by
           have hset:Qax (fun b=>b≠w4.heap.size∧b<wi.heap.size) wr (wr.setCell ⟨wi.heap.size,k,none⟩ (.int .i64 (Z:Int))):=Qax.set _ _ _ _ (fun hG=>by omega);have hall:Qax (fun b=>b≠w4.heap.size∧b<wi.heap.size) (wr.setCell ⟨wi.heap.size,k,none⟩ (.int .i64 (Z:Int))) W8:=by rw [hW8];exact Qax.below ((Zr _ _).alloc (Zn _) _)
           exact (hkk.trans hset (by omega)).trans hall (by simp [World.setCell];omega)
          have hz8:wi.heap.size+1≤W8.heap.size:=by rw [hW8];simp [World.setCell];omega
          have HW8:=Zh hW8;have HX8:=Zh hX8;have o5a:=hOk.six.2.2.2.2.2;have zb:=hBk.lt;have zo:=hOk.lt;clear hx hr1 hr2 cc1 cc2 hW8 hOk hBk hv0 hbk hkk HB2 hX8
          go_wp2_with fail
          rw [←HW8.out];clear o5a zb zo;have hX8:=HX8.out;have hlt8:=hX8.lt;have HSX:=Zh (show ∀ V,Blk V wr.heap.size 105 #[.slice A1 n1 c1,.slice A2 n2 c2]→V.cell? ⟨wr.heap.size,0,none⟩=some (.slice A1 n1 c1)∧V.cell? ⟨wr.heap.size,1,none⟩=some (.slice A2 n2 c2) from fun V hV=>⟨hV.two.1,hV.two.2.1⟩)
          refine wp_region_held_drew (S:=fun V=>Blk V wr.heap.size 105 #[.slice A1 n1 c1,.slice A2 n2 c2]) (by kernel_rfl) hX8.drew (fun _=>?_);refine tz 0 84 ?_;refine tz 1 85 ?_;refine tz 2 86 ?_;refine tz 4 88 ?_;refine tz 5 89 ?_;refine tz 6 90 ?_;refine tz 7 91 ?_;refine tz 8 92 ?_;refine tz 9 93 ?_;refine tz 10 94 ?_;obtain ⟨o0,o1,o2,o3,o4,o5⟩:=hO8.six;refine Zk 3 (fun K hK=>?_);go_simp;refine hK.out _ _ hX8.drew (fun _=>?_);clear hK;refine tz 11 95 ?_;refine tz 12 96 ?_;refine tz 13 97 ?_;have of:=hO8.frozen 5;refine Zk 14 (fun K hK=>?_);go_simp;refine hK.out _ _ (hX8.far_ (by omega) _) (fun _=>?_);clear hK;refine Zd ?_;have HO9:=Zh (show Blk ((W8.setCell ⟨w4.heap.size,5,none⟩ (.int .i64 ((Z:Int)+(P:Int)))).drew) w4.heap.size 157 #[.slice Q3 L cq3,.slice F M cF,.slice T M cT,.slice (some ⟨gb,go_,none⟩) L L,.slice S i cS,.int .i64 ((Z:Int)+(P:Int))] from hO8.set_ 5 _)
          have HB9:=Zh (hB8.far_ (b:=w4.heap.size) (o:=5) (by omega) (.int .i64 ((Z:Int)+(P:Int))));have HE9:=Zh (show (((sA+Qda (row.take (k+1)):Nat)):Int)=(Z:Int)+(P:Int) by have:=HSZ.out;have:=HZ.out;omega)
          have HK9:=Zh (hk8.trans (Qax.set W8 w4.heap.size 5 (.int .i64 ((Z:Int)+(P:Int))) (fun hG=>hG.1 rfl)) (by omega));have HL9:=Zh (hb8.setCell (p:=⟨w4.heap.size,5,none⟩) (by simp) (.int .i64 ((Z:Int)+(P:Int))));clear hO8 hB8 hk8 hb8 o0 o1 o2 o3 o4 o5 of hX8
          go_wp2_with fail
          go_roundw
          case rel=>exact ⟨by simp [World.setCell];omega,HL9.out.drew,HK9.out,k+1,by omega,by go_num,by rw [HE9.out];exact HO9.out,HB9.out⟩
          case measure=>simp [intOf];omega
        · obtain rfl:ng=k:=by omega
          rw [Yy,List.replicate_zero,List.append_nil,Ye (by rw [Qfc,HRL.out];exact Zn _)] at hBk;rw [Ye (by rw [HRL.out];exact Zn _)] at hOk;have hRk:=hRw.keep (by omega) (fun b h1 h2=>hkk b ⟨by omega,h2⟩ h2);have hSl:∀ b,Qaa S=some b→b<wi.heap.size:=fun b hb=>(hRw.1.lt b hb).2
          obtain ⟨W1,hW1⟩:∃ W1,W1=wr.alloc (.cells #[.slice (some ⟨wi.heap.size,0,none⟩) ng ng] 93):=⟨_,rfl⟩;have hbA:Below wr.heap.size wr W1:=by rw [hW1];exact Qaf
          have hRA:=hRk.below hbA;have hOA:=hOk.below hbA hOk.lt;have hrA:Rds W1 1 (some ⟨wr.heap.size,0,none⟩) 1 [.slice (some ⟨wi.heap.size,0,none⟩) ng ng]:=by rw [hW1];exact (Blk.new wr 93 #[.slice (some ⟨wi.heap.size,0,none⟩) ng ng]).rds rfl
          have hrI:RdI W1 (some ⟨wi.heap.size,0,none⟩) ng (Qhh sA row):=(hBk.below hbA hBk.lt).rdI (by rw [Qfc];exact HRL.out);have hLt:=hBk.lt;have hbA4:Below w4.heap.size w4 W1:=hbk.trans (hbA.mono (by omega));have hszA:wo.heap.size≤W1.heap.size:=by have:=hbA.size;omega
          have hzA:=hbA.size;have hKA:Qax (fun b=>b≠w4.heap.size∧b<wo.heap.size) wo W1:=(hkr.trans (hkk.mono (fun b hb=>⟨hb.1,by omega⟩)) (by omega)).trans ((Qax.below hbA).mono (fun b hb=>hb)) (by omega);have hoS:=hRA.1;obtain ⟨o0,o1,o2,o3,o4,o5⟩:=hOk.six;have zo:=hOk.lt;have HSNN:=Zh (show ((Qbr ((gatesOf N.ar ls).take (i+1)):Nat):Int)=((sA+Qda row:Nat):Int) by rw [HSN.out])
          have HW1:=Zh hW1;clear hBk hRk hW1 hRw hO hkk hkr hbk hbr
          go_wp2_with (at_builtin;rw [←HW1.out];with_reducible refine Qas rfl (.tmp 103) (.tmp 105) 27 rfl 93 _ 1 24 Qgv underlying27 rfl (by omega) rfl rfl hoS hrA (Qbz _ _ _) (by omega) (by omega) (by omega) ?_)
          intro A' c' w' hown' hg hat;have hO':=hOA.grown hg (hoS.ne (by omega));have hb4':Below w4.heap.size w4 w':=Zo hbA4 hg (hoS.mono (by omega)) (by omega);have hz':=hg.size
          have HR':=Zh ((hRA.push hown' hg hat hrI (fun q hq=>by
           have e:=Qgt hq;subst e;exact ⟨by omega,by omega,fun e=>by have:=hSl _ e;omega⟩) (Zn _) (by omega)).far (Qab w' w4.heap.size 4 (.slice A' (i+1) c')) (by omega))
          have HK':=Zh ((hKA.trans (Qax.grown hg (fun b hb e=>by have:=(hoS.lt b e).1;omega)) (by omega)).trans (Qax.set w' w4.heap.size 4 (.slice A' (i+1) c') (fun hG=>hG.1 rfl)) (by omega));have HO':=Zh (show Blk (w'.setCell ⟨w4.heap.size,4,none⟩ (.slice A' (i+1) c')) w4.heap.size 157 #[.slice Q3 L cq3,.slice F M cF,.slice T M cT,.slice (some ⟨gb,go_,none⟩) L L,.slice A' (i+1) c',.int .i64 ((Qbr ((gatesOf N.ar ls).take (i+1)):Nat):Int)] from by rw [HSNN.out];exact hO'.set_ 4 _)
          have HL':=Zh (hb4'.setCell (p:=⟨w4.heap.size,4,none⟩) (by simp) (.slice A' (i+1) c'));obtain ⟨_,_,_,_,o4',_⟩:=hO'.six;have of':=hO'.frozen 4;clear hRA hOA hrA hrI hbA4 hKA hoS o0 o1 o2 o3 o4 o5 hown' hg hat hO' hb4' hbA
          go_wp2_with fail
          go_roundw
          case rel=>exact ⟨by simp [World.setCell];omega,HL'.out,HK'.out,i+1,A',c',_,by omega,by go_num,HO'.out,by rw [Yf (Zs HSG.out).1,(Zs HSG.out).2];exact HR'.out⟩
          case measure=>simp [intOf];omega
     · obtain rfl:L=i:=by omega
       have hgl:(gatesOf N.ar ls).length=L:=by simp [gatesOf];exact HT.out.1
       rw [Ye (by rw [Qxx,hgl];exact Zn _)] at hRw;rw [Ye (by rw [hgl];exact Zn _)] at hO;have hz4:=hbw4.size;have hzo:=hO.lt
       have HOV:=Zh (show Qfm (msk wr (fun b=>w.heap.size≤b∧b<wr.heap.size)) w4.heap.size N.ar ls from by
        have hk4:Le (msk w4 (fun b=>w.heap.size≤b∧b<w4.heap.size)) (msk wr (fun b=>w.heap.size≤b∧b<wr.heap.size)) :=
         Le.trans (Qax.msk (W':=wr) (fun b hb _=>hbr.block b hb.2)) (Qay (fun b hb=>⟨hb.1,by omega⟩))
        have own:∀ (A:Option Addr) (c:Nat) (l:List Int),Own wo (w4.heap.size+1) 3 1 A M c (Qad l)→RdI (msk wr (fun b=>w.heap.size≤b∧b<wr.heap.size)) A M l:=fun A c l ho =>
         (ho.rds.rdI.keepB (fun b hb=>hkr b ⟨by have:=(ho.lt b hb).1;omega,(ho.lt b hb).2⟩ (ho.lt b hb).2)).msk (fun b hb=>⟨by have:=(ho.lt b hb).1;omega,by have:=(ho.lt b hb).2;omega⟩)
        obtain ⟨o0,o1,o2,o3,o4,o5⟩:=hO.six;have hc:∀ {k:Nat} {v:Value},wr.cell? ⟨w4.heap.size,k,none⟩=some v→(msk wr (fun b=>w.heap.size≤b∧b<wr.heap.size)).cell? ⟨w4.heap.size,k,none⟩=some v:=fun h=>Qao.2 ⟨⟨by omega,by omega⟩,h⟩
        exact ⟨_,_,_,_,_,_,_,_,_,_,_,_,hc o0,hc o1,hc o2,hc o3,hc o4,hc o5,HQ4.out.le hk4,own _ _ _ HOF.out,own _ _ _ HOT.out,HG4.out.le hk4,hRw.rdM (fun b h1 h2=>⟨by omega,h2⟩),HCQ.out⟩)
       have HBF:=Zh (hbw4.trans (hbr.mono (by omega)));clear hO hRw hbr hkr
       go_wp2_with fail
       go_ret2
       exact ⟨_,rfl,HOV.out,HBF.out⟩
end Go.Proofs.YthoagdpakddbdaaGreatDoor
