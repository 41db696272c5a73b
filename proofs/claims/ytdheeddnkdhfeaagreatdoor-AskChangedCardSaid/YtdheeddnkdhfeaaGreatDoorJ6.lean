/- Parts of the proof: Og, Wp, ChP, Ch1, Ch2, Ch3, Nt9R, Cp. -/
import Derived.Test.YtdheeddnkdhfeaaGreatDoorJ5
import Derived.Test.YtdheeddnkdhfeaaGreatDoorShelf
namespace Go.Proofs.YtdheeddnkdhfeaaGreatDoor
open Go.RowKit Go.Proofs.Tryz
attribute [local go_sem ↓] Go.wp_at_zero Go.wp_at_succ
theorem Qkj (o:Nat)(ar:List Tri) (ls:List (List Int)) (w:World) (h:Qfw w o ar ls):Calls prog 49 #[.pointer (some ⟨o,0,none⟩)] w fun e w'=>e=.returned (.int .i64 (ls.length:Int))∧w=w':=by
 obtain ⟨Q,F,T,G,S,L,m,cq,cf,ct,cg,cs,h⟩:=h;have h0:=h.n0;have HL:=Zh h.part.1;clear h
 go_enter func49,ntmps49
 go_wp2
 go_ret
 exact ⟨Qcf (by rw [HL.out]),rfl⟩
theorem Qpd (o:Nat)(ar:List Tri) (ls:List (List Int)) (w:World) (h:Qfw w o ar ls):Calls prog 48 #[.pointer (some ⟨o,0,none⟩)] w fun e w'=>e=.returned (.int .i64 ((Qca (gatesOf ar ls):Nat):Int))∧w=w':=by
 obtain ⟨Q,F,T,G,S,L,m,cq,cf,ct,cg,cs,h⟩:=h;have h0:=h.n5;clear h;generalize Qca (gatesOf ar ls)=z at *
 go_enter func48,ntmps48
 go_wp2
 exact Kbd
theorem Qbt {ar:List Tri} {ls:List (List Int)} {i:Nat} {l:List Int} (h:ls[i]?=some l):(gatesOf ar ls)[i]?=some (gateRow ar l):=by
 unfold gatesOf;rw [Yt,h]
 rfl
theorem Qkt (o i M:Nat)(ar:List Tri) (ls:List (List Int)) (l:List Int) (w:World) (h:Qfw w o ar ls) (hl:ls[i]?=some l) (hL:ls.length≤1000000) (hM:(Qav l).toNat=M):Calls prog 50 #[.pointer (some ⟨o,0,none⟩),.int .i64 ((i:Int)+1)] w fun e w'=>e=.returned (.int .i64 (M:Int))∧w=w':=by
 obtain ⟨Q,F,T,G,S,L,m,cq,cf,ct,cg,cs,h⟩:=h;have h0:=h.n3;have hi:i<L:=by rw [←h.part.1];exact (Zs hl).1
 have hLL:L≤1000000:=by rw [←h.part.1];exact hL
 obtain ⟨row,gb,go_,A,n,c,hrow,rfl,hc,hr,_⟩:=h.gates.at_ hi;rw [Qbt hl] at hrow
 cases hrow
 have HN:=Zh (show n=M by rw [←hr.1,Qau,hM])
 clear hM;have i1:(0:Int)≤(i:Int):=by omega
 have i2:(i:Int)<(L:Int):=by omega
 have i3:¬((i:Int)+1<1):=by omega
 have i4:¬((i:Int)+1 > (L:Int)):=by omega
 have i5:(i:Int)+1-1=(i:Int):=by omega
 clear h hl hr hL
 go_enter func50,ntmps50
 go_wp2
 go_ret
 exact ⟨Qcf (by rw [HN.out]),rfl⟩
theorem Qse (o i k M:Nat)(ar:List Tri) (ls:List (List Int)) (l:List Int) (w:World) (h:Qfw w o ar ls) (hl:ls[i]?=some l) (hL:ls.length≤1000000) (hM:(Qav l).toNat=M) (hk:k<M):Calls prog 116 #[.pointer (some ⟨o,0,none⟩),.int .i64 ((i:Int)+1),.int .i64 k] w fun e w'=>e=.returned (.bool true)∧w=w':=by
 have HC:=Zh (Qkt o i M ar ls l w h hl hL hM);clear h hl hL hM;have i1:(0:Int)≤(k:Int):=by omega
 have i2:(k:Int)<(M:Int):=by omega
 go_enter func116,ntmps116
 go_wp2_with fail
 with_reducible refine HC.out.mono ?_
 rintro e w' ⟨rfl,rfl⟩
 go_wp2_with fail
 go_ret
 exact ⟨Qbh (by first|(simp;done)|(simp;omega)),rfl⟩
set_option maxHeartbeats 1000000 in
theorem Qic (o i k:Nat)(ar:List Tri) (ls:List (List Int)) (l:List Int) (x:Qam) (w:World) (h:Qfw w o ar ls) (hl:ls[i]?=some l) (hL:ls.length≤1000000) (hx:(gateRow ar l)[k]?=some x) (ha:ar.length≤1000000) :
 Calls prog 61 #[.pointer (some ⟨o,0,none⟩),.int .i64 ((i:Int)+1),.int .i64 k] w fun e w'=>∃ A1 n1 c1 A2 n2 c2,e=.returned (.agg #[.slice A1 n1 c1,.slice A2 n2 c2])∧Own w' w.heap.size 3 1 A1 n1 c1 (Qaf x.1)∧Own w' w.heap.size 3 1 A2 n2 c2 (Qaf x.2)∧Below w.heap.size w w':=by
 have hk:k<(Qav l).toNat:=by rw [←Qau ar l];exact (Zs hx).1
 have HH:=Zh (show ∀ V,Below w.heap.size w V→Calls prog 116 #[.pointer (some ⟨o,0,none⟩),.int .i64 ((i:Int)+1),.int .i64 k] V fun e w'=>e=.returned (.bool true)∧V=w' from fun V hV=>Qse o i k _ ar ls l V (h.below hV) hl hL rfl hk)
 obtain ⟨Q,F,T,G,S,L,m,cq,cf,ct,cg,cs,h⟩:=h;have h0:=h.n3;have hi:i<L:=by rw [←h.part.1];exact (Zs hl).1
 have hLL:L≤1000000:=by rw [←h.part.1];exact hL
 obtain ⟨row,gb,go_,A,n,c,hrow,rfl,hc,hr,_⟩:=h.gates.at_ hi;rw [Qbt hl] at hrow
 cases hrow
 have hn:n=(Qav l).toNat:=by rw [←hr.1,Qau]
 obtain ⟨y,cb,co,A1,n1,c1,A2,n2,c2,hy,rfl,hc1,hr1,hc2,hr2,_⟩:=hr.at_ (c:=k) (by omega);rw [hx] at hy
 cases hy
 have hg:=Qbn hx;have HR1:=Zh hr1;have HR2:=Zh hr2;have hn1:n1≤1000000:=by rw [←hr1.1];omega
 have hn2:n2≤1000000:=by rw [←hr2.1];omega
 have h0a:=fun ob=>Zc (show Below w.heap.size w (w.alloc ob) from Qag) (Zn _) h0
 have hca:=fun ob=>Zc (show Below w.heap.size w (w.alloc ob) from Qag) (Zn _) hc
 have hc1a:=fun ob=>Zc (show Below w.heap.size w (w.alloc ob) from Qag) (Zn _) hc1
 have hc2a:=fun ob=>Zc (show Below w.heap.size w (w.alloc ob) from Qag) (Zn _) hc2
 have i1:(0:Int)≤(i:Int):=by omega
 have i2:(i:Int)<(L:Int):=by omega
 have i5:(i:Int)+1-1=(i:Int):=by omega
 have i6:(0:Int)≤(k:Int):=by omega
 have i7:(k:Int)<(n:Int):=by omega
 clear h hl hr hL hx hr1 hr2 hn hk
 go_enter func61,ntmps61
 go_wp2_with fail
 with_reducible refine (HH.out _ Qag).mono ?_
 rintro e w' ⟨rfl,rfl⟩
 go_wp2_with fail
 (refine Qai ?_;intro w3 hw3)
 have hb3:Below w.heap.size w w3:=by rw [hw3];exact Qag
 have hZ:Blk w3 w.heap.size 135 #[.slice none 0 0,.slice none 0 0]:=by rw [hw3];exact Qay
 have hX:Blk w3 (w.heap.size+1) 135 #[.slice A1 n1 c1,.slice A2 n2 c2]:=by rw [hw3];exact Qay
 clear hw3 h0a hca hc1a hc2a;have HSX:=Zh (show ∀ V,Blk V (w.heap.size+1) 135 #[.slice A1 n1 c1,.slice A2 n2 c2]→V.cell? ⟨w.heap.size+1,0,none⟩=some (.slice A1 n1 c1)∧V.cell? ⟨w.heap.size+1,1,none⟩=some (.slice A2 n2 c2) from fun V hV=>⟨hV.two.1,hV.two.2.1⟩)
 refine wp_region_held_drew (S:=fun V=>Blk V (w.heap.size+1) 135 #[.slice A1 n1 c1,.slice A2 n2 c2]) (by kernel_rfl) hX.drew (fun _=>?_);refine tz 0 25 ?_;refine tz 1 26 ?_;refine tz 3 28 ?_;refine tz 4 29 ?_;refine Zk 2 (fun K hK=>?_);go_simp;with_reducible refine (Qkz A1 n1 c1 x.1 _ (HR1.out.below (show Below w.heap.size w w3.drew from Qag)) hn1).mono ?_
 rintro e w4 ⟨B1,d1,rfl,ho1,hb4⟩;have hb34:Below w3.heap.size w3 w4:=(Zr _ w3).drew.trans hb4;have hX4:=hX.below hb34 hX.lt;have hZ4:=hZ.below hb34 hZ.lt;have hb4':=Zb hb3 hb34;clear hb4
 go_wp2_with fail
 refine hK.out _ _ hX4 (fun _=>?_);clear hK K;refine Zk 5 (fun K hK=>?_);go_simp;with_reducible refine (Qkz A2 n2 c2 x.2 w4 (HR2.out.below hb4') hn2).mono ?_
 rintro e w5 ⟨B2,d2,rfl,ho2,hb5⟩;have hX5:=hX4.below hb5 hX4.lt;have hZ5:=hZ4.below hb5 hZ4.lt;have hb5':=Zb hb4' hb5;have ho1':=ho1.below hb5;have hz3:=hb34.size;have hzX:=hX.lt
 replace ho1':Own w5 w3.heap.size 3 1 B1 n1 d1 (Qaf x.1):=ho1'
 clear ho1 hb5
 go_wp2_with fail
 refine hK.out _ _ hX5 (fun _=>?_);clear hK K;refine tz 6 31 ?_;obtain ⟨z0,z1,zf0,zf1⟩:=hZ5.two;refine Zk 7 (fun K hK=>?_);go_simp;refine hK.out _ _ ((hX5.far_ (by omega) _).far_ (by omega) _) (fun _=>?_);clear hK K;refine Zd ?_;have HF1:=Zh (((ho1'.far (Qaa w5 w.heap.size 0 (.slice B1 n1 d1)) (.inr (ho1'.ne (by omega)))).far (Qaa _ w.heap.size 1 (.slice B2 n2 d2)) (.inr (ho1'.ne (by omega)))).mono (show w.heap.size≤w3.heap.size by omega))
 have HF2:=Zh (((ho2.far (Qaa w5 w.heap.size 0 (.slice B1 n1 d1)) (.inr (ho2.ne (by omega)))).far (Qaa _ w.heap.size 1 (.slice B2 n2 d2)) (.inr (ho2.ne (by omega)))).mono (show w.heap.size≤w4.heap.size by omega))
 clear ho1' ho2
 go_wp2_with fail
 refine bodyPost_ret (v:=.agg #[.slice B1 n1 d1,.slice B2 n2 d2]) (by simp [results,results61,go_sem,z0,z1]) rfl ?_;exact ⟨B1,n1,d1,B2,n2,d2,rfl,HF1.out,HF2.out,Qag⟩
theorem oGate_ok (o i k:Nat)(ar:List Tri) (ls:List (List Int)) (l:List Int) (x:Qam) (w:World) (h:Qfw w o ar ls) (hl:ls[i]?=some l) (hL:ls.length≤1000000) (hx:(gateRow ar l)[k]?=some x) (ha:ar.length≤1000000) :
 Calls prog 61 #[.pointer (some ⟨o,0,none⟩),.int .i64 ((i:Int)+1),.int .i64 k] w fun e w'=>∃ A1 n1 c1 A2 n2 c2,e=.returned (.agg #[.slice A1 n1 c1,.slice A2 n2 c2])∧RdI w' A1 n1 x.1∧RdI w' A2 n2 x.2∧Below w.heap.size w w':=by
 refine (Qic o i k ar ls l x w h hl hL hx ha).mono ?_;rintro e w' ⟨A1,n1,c1,A2,n2,c2,rfl,h1,h2,h3⟩;exact ⟨A1,n1,c1,A2,n2,c2,rfl,h1.rds.rdI,h2.rds.rdI,h3⟩
theorem count_lt {l:List Int} (h:l.Pairwise (·<·)) {k:Nat} {v:Int} (hk:l[k]?=some v):l.countP (·<v)=k:=by
 induction l generalizing k with
 | nil=>simp at hk
 | cons x t ih =>
  rw [List.pairwise_cons] at h
  cases k with
  | zero =>
   simp at hk;subst hk;rw [List.countP_eq_zero];intro y hy
   rcases List.mem_cons.1 hy with rfl|hy
   · simp
   · have:=h.1 y hy
     simp;omega
  | succ k =>
   simp at hk;have hx:=h.1 v (Zm hk);rw [List.countP_cons,ih h.2 hk];simp [hx]
theorem Qfg {l:List Int} (h:l.Pairwise (·<·)) {k:Nat} {v:Int} (hk:l[k]?=some v):plI l v=k:=by
 refine Qok hk (fun j x hj hx e=>?_);subst e;rw [List.pairwise_iff_getElem] at h;have h1:=(Zs hx);have h2:=(Zs hk);have:=h j k h1.1 h2.1 hj;rw [h1.2,h2.2] at this;omega
set_option maxHeartbeats 400000 in
theorem Qfk (A:Option Addr)(n c:Nat)(l:List Int)(v:Int)(w:World)(h:RdI w A n l) (hs:l.Pairwise (·<·)) (hn:n≤1000000) :
 Calls prog 63 #[.slice A n c,.int .i64 v] w fun e w'=>e=.returned (.int .i64 (plI l v))∧Below w.heap.size w w':=by
 have hb:∃ (p:Nat) (t:Bool),Calls prog 118 #[.slice A n c,.int .i64 v] w (fun e w'=>e=.returned (.tuple #[.int .i64 (p:Int),.bool t])∧Below w.heap.size w w')∧plI l v=if t then (p:Int) else -1:=by
  cases n with
  | zero =>
   have hl:l=[]:=List.eq_nil_of_length_eq_zero h.1;subst hl;refine ⟨0,false,?_,by simp [Qcq]⟩;refine Calls.mono (show Calls prog 118 _ _ _ from Any.slices_BinarySearch_int_empty searchL A c v w) ?_
   rintro e w' ⟨rfl,rfl⟩;exact ⟨rfl,Zr _ _⟩
  | succ n =>
   obtain ⟨b,o,x,rfl,hx,hc⟩:=h.at_ (i:=0) (by omega)
   have hcon:=Any.slices_BinarySearch_int searchL b o (n+1) c l v w (by rw [h.1];exact Zn _) (by omega) (fun j hj=>by
    obtain ⟨b',o',y,e,hy,hc'⟩:=h.at_ (i:=j) (by rw [←h.1];exact hj)
    cases e
    rw [Ya,hy];exact hc') (by rw [Ye (by rw [h.1];exact Zn _)];exact hs.imp (fun h=>by omega))
   rw [Ye (by rw [h.1];exact Zn _)] at hcon;refine ⟨l.countP (·<v),l.contains v,?_,?_⟩
   · refine Calls.mono (show Calls prog 118 _ _ _ from hcon) ?_
     rintro e w' ⟨rfl,q,rfl⟩;exact ⟨rfl,Qbi (Zr _ _) q⟩
   · by_cases hm:v∈l
     · obtain ⟨k,hk⟩:=Yr hm
       rw [Qfg hs hk,count_lt hs hk,if_pos (by simpa using hm)]
     · rw [Qcq hm,if_neg (by simpa using hm)]
 obtain ⟨p,t,hcall,hp⟩:=hb;have HC:=Zh hcall;have HP:=Zh hp;clear hcall hp h hs
 go_enter func63,ntmps63
 go_wp2_with fail
 with_reducible refine HC.out.mono ?_
 rintro e w' ⟨rfl,hb⟩
 cases t
 · go_wp2_with fail
   go_ret
   exact ⟨Qcf (by rw [HP.out];rfl),hb⟩
 · go_wp2_with fail
   go_ret
   exact ⟨Qcf (by rw [HP.out];rfl),hb⟩
end Go.Proofs.YtdheeddnkdhfeaaGreatDoor
namespace Go.Proofs.YtdheeddnkdhfeaaGreatDoor
theorem Qkm (l:List Nat):∀ {a b:Nat},a≤b→(l.take a).sum≤(l.take b).sum:=by
 induction l with
 | nil=>intro a b _;simp
 | cons x t ih =>
  intro a b h
  cases a with
  | zero=>simp
  | succ a =>
   cases b with
   | zero=>omega
   | succ b =>
    have:=ih (a:=a) (b:=b) (by omega);simp only [List.take_succ_cons,List.sum_cons];omega
theorem Qhz (row:List Qam){a b:Nat}(h:a≤b):Qdy (row.take a)≤Qdy (row.take b):=by
 unfold Qdy;rw [List.map_take,List.map_take];exact Qkm _ h
theorem Qii (gs:List (List Qam)) {a b:Nat} (h:a≤b):Qca (gs.take a)≤Qca (gs.take b):=by
 unfold Qca;rw [List.map_take,List.map_take];exact Qkm _ h
theorem Qjy (row:List Qam)(a:Nat):Qdy (row.take a)≤Qdy row:=by
 have:=Qhz row (a:=a) (b:=max a row.length) (by omega);rw [Ye (l:=row) (i:=max a row.length) (by omega)] at this;exact this
theorem Qfr (gs:List (List Qam)) (a:Nat):Qca (gs.take a)≤Qca gs:=by
 have:=Qii gs (a:=a) (b:=max a gs.length) (by omega);rw [Ye (l:=gs) (i:=max a gs.length) (by omega)] at this;exact this
def Qgq (gs:List (List Qam)) (row:List Qam) (i c:Nat) (x:Qam) (a b:Nat):Nat:=Qca (gs.take i)+Qdy (row.take c)+(a*x.2.length+b)
theorem Qrp {gs:List (List Qam)} {row:List Qam} {i c a b:Nat} {x:Qam} (hx:row[c]?=some x) (ha:a<x.1.length) (hb:b<x.2.length):Qgq gs row i c x a b<Qca (gs.take i)+Qdy (row.take (c+1)):=by
 unfold Qgq;rw [Qcz hx]
 have:a*x.2.length+b<szG x:=by
  unfold szG;have h1:(a+1)*x.2.length≤x.1.length*x.2.length:=Nat.mul_le_mul_right _ ha;rw [Nat.add_mul,Nat.one_mul] at h1;omega
 omega
theorem Qjs {gs:List (List Qam)} {row:List Qam} {i c a b:Nat} {x:Qam} (hr:gs[i]?=some row) (hx:row[c]?=some x) (ha:a<x.1.length) (hb:b<x.2.length):Qgq gs row i c x a b<Qca (gs.take (i+1)):=by
 have h:=Qrp (gs:=gs) (i:=i) hx ha hb;have h2:=Qjy row (c+1);rw [Qdb hr];omega
end Go.Proofs.YtdheeddnkdhfeaaGreatDoor
namespace Go.Proofs.YtdheeddnkdhfeaaGreatDoor
open Go.RowKit Go.Proofs.Tryz
theorem Qnh (f:Tri→Int)(v:Int):∀ (l m:List Tri) (k:Nat),l.map f=m.map f→((l.zipIdx k).filter (fun p=>f p.1 == v)).map (fun p=>(p.2:Int))=((m.zipIdx k).filter (fun p=>f p.1 == v)).map (fun p=>(p.2:Int))
 | [],[],_,_=>rfl
 | [],_::_,_,h=>by simp at h
 | _::_,[],_,h=>by simp at h
 | a::l,b::m,k,h=>by
  simp only [List.map_cons,List.cons.injEq] at h;have ih:=Qnh f v l m (k+1) h.2;simp only [List.zipIdx_cons,List.filter_cons,h.1]
  split
  · simp only [List.map_cons,ih]
  · exact ih
theorem Qhn {f:Tri→Int}{l m:List Tri}(h:l.map f=m.map f)(v:Int):idx f l v=idx f m v:=Qnh f v l m 0 h
theorem Qmn {f:Tri→Int}{l m:List Tri}(h:l.map f=m.map f)(n:Nat):Qim f l n=Qim f m n:=by
 unfold Qim;simp only [Qhn h]
def Qdf (l m:List Tri):Prop:=l.map (·.1)=m.map (·.1)∧l.map (·.2.1)=m.map (·.2.1)
theorem Qdf.len {l m:List Tri}(h:Qdf l m):l.length=m.length:=by
 have:=congrArg List.length h.1
 simpa using this
theorem Qdf.take {l m:List Tri}(h:Qdf l m)(k:Nat):Qdf (l.take k) (m.take k):=⟨by rw [List.map_take,List.map_take,h.1],by rw [List.map_take,List.map_take,h.2]⟩
theorem Qdf.get {l m:List Tri}(h:Qdf l m){i:Nat}{a:Tri} (ha:l[i]?=some a):∃ b,m[i]?=some b∧b.1=a.1∧b.2.1=a.2.1:=by
 have hi:=(Zs ha).1;have him:i<m.length:=by rw [←h.len];exact hi
 have hm:m[i]?=some m[i]:=Zg him;have e1:=congrArg (·[i]?) h.1;have e2:=congrArg (·[i]?) h.2;simp only [Yt,ha,hm,Option.map_some,Option.some.injEq] at e1 e2;exact ⟨_,hm,e1.symm,e2.symm⟩
theorem Qki {l:List Tri}{a:Nat}{x y z:Int} (h:l[a]?=some (x,y,z)) (u:Int):Qdf (l.set a (x,y,u)) l:=by
 have hl:=(Zs h).1;refine ⟨?_,?_⟩ <;>
 · apply List.ext_getElem?
   intro i;simp only [Yt]
   by_cases e:a=i
   · subst e
     rw [Yg hl,h]
     rfl
   · rw [Yh e]
theorem Qva {l m:List Tri}(h:Qdf l m):plcs l=plcs m:=by
 apply List.ext_getElem?
 intro i
 rcases Nat.lt_or_ge i l.length with hi|hi
 · have ha:l[i]?=some l[i]:=Zg hi
   obtain ⟨b,hb,e1,e2⟩:=h.get ha;rw [Qig ha,Qig hb];unfold Qgi;rw [Qhn (h.take i).2,Qhn (h.take i).1,e1,e2]
 · rw [Yd (by rw [Qka];exact hi),Yd (by rw [Qka,←h.len];exact hi)]
theorem Qor {f:Tri→Int}{l m:List Tri}(h:l.map f=m.map f)(v:Int):l.countP (fun a=>f a == v)=m.countP (fun a=>f a == v):=by
 rw [←Qod,←Qod,Qhn h]
def Qak.setW (N:Qak)(a:Nat)(x y u:Int):Qak:=⟨N.vs,N.ar.set a (x,y,u),N.ts⟩
def Qak.bend (N:Qak)(p:Nat)(t:Qcv):Qak:=⟨N.vs,N.ar,N.ts.set p t⟩
def Qcv.turn (t:Qcv)(i:Nat)(c:Int):Qcv:=⟨t.ins,t.outs,t.costs.set i c⟩
theorem Qas.setW {N:Qak}(h:Qas N){a:Nat}{x y z u:Int} (ha:N.ar[a]?=some (x,y,z)) (hu:wOk u=true):Qas (N.setW a x y u) where
 lv:=h.lv
 la:=by show (N.ar.set a (x,y,u)).length≤_;rw [Yq];exact h.la
 lt:=h.lt
 tabs:=h.tabs
 verts:=h.verts
 arcs:=fun t ht=>by
  rcases List.mem_or_eq_of_mem_set ht with ht|rfl
  · exact h.arcs t ht
  · have:=h.arcs _ (Zm ha)
    exact ⟨this.f0,this.f1,this.g0,this.g1,hu⟩
 meet:=fun i v t hv ht=>by
  have h1:=h.meet i v t hv ht;have hA:=Qki ha u;unfold Qza Qzm at *
  show ((List.countP _ (N.ar.set a (x,y,u)):Nat):Int)=_∧((List.countP _ (N.ar.set a (x,y,u)):Nat):Int)=_
  rw [Qor hA.2,Qor hA.1];exact h1
theorem Qhf.turn {t:Qcv}(h:Qhf t){i:Nat}{c:Int}(hc:wOk c=true):Qhf (t.turn i c) where
 i0:=h.i0
 i16:=h.i16
 o0:=h.o0
 o16:=h.o16
 len:=by show ((t.costs.set i c).length:Int)=_;rw [Yq];exact h.len
 ok:=fun d hd=>by
  rcases List.mem_or_eq_of_mem_set hd with hd|rfl
  · exact h.ok d hd
  · exact hc
theorem Qas.bend {N:Qak}(h:Qas N){p:Nat}{t:Qcv} (ht:N.ts[p]?=some t) {i:Nat} {c:Int} (hc:wOk c=true):Qas (N.bend p (t.turn i c)) where
 lv:=h.lv
 la:=h.la
 lt:=by show (N.ts.set p _).length≤_;rw [Yq];exact h.lt
 tabs:=fun s hs=>by
  rcases List.mem_or_eq_of_mem_set hs with hs|rfl
  · exact h.tabs s hs
  · exact (h.tabs t (Zm ht)).turn hc
 verts:=fun v hv=>by
  have:=h.verts v hv;have hl:(N.ts.set p (t.turn i c)).length=N.ts.length:=Yq ..;exact ⟨this.x,this.y,this.t0,by show v.2.2<((N.ts.set p (t.turn i c)).length:Int);rw [hl];exact this.t1⟩
 arcs:=h.arcs
 meet:=fun j v s hv hs=>by
  have hs:(N.ts.set p (t.turn i c))[v.2.2.toNat]?=some s:=hs
  by_cases e:p=v.2.2.toNat
  · rw [e,Yg (by rw [←e];exact (Zs ht).1)] at hs
    cases hs
    exact h.meet j v t hv (by rw [←e];exact ht)
  · rw [Yh e] at hs
    exact h.meet j v s hv hs
theorem Qez.setW {N:Qak}(h:Qez N)(a:Nat)(x y u:Int):Qez (N.setW a x y u) :=
 ⟨h.v,by show (N.ar.set a (x,y,u)).length≤_;rw [Yq];exact h.a,h.t,h.c⟩
theorem Qez.bend {N:Qak}(h:Qez N){p:Nat}{t:Qcv} (ht:N.ts[p]?=some t) (i:Nat) (c:Int):Qez (N.bend p (t.turn i c)) :=
 ⟨h.v,h.a,by show (N.ts.set p _).length≤_;rw [Yq];exact h.t,fun s hs=>by
  rcases List.mem_or_eq_of_mem_set hs with hs|rfl
  · exact h.c s hs
  · show (t.costs.set i c).length≤_
    rw [Yq];exact h.c t (Zm ht)⟩
/-! the number of an entry, one by one -/
attribute [local go_sem ↓] Go.wp_at_zero Go.wp_at_succ
theorem Qij (w:World)(c:Int):Qcd w (Qnc c) [] c:=rfl
theorem Qfc (k:Int)(u:Value) (ps:List (ByteArray×Int)) (c:Int) (w:World) (hu:Qcd w u ps c) :
 Calls prog 94 #[.int .i64 k,u] w fun e w'=>∃ v,e=.returned v∧Qcd w' v (((⟨#[103,114,97,112,104]⟩:ByteArray),k)::ps) c∧Below w.heap.size w w':=by
 obtain ⟨tu,xu,rfl⟩:=Qbj hu;have HU:=Zh hu;clear hu
 go_enter func94,ntmps94
 go_wp2
 go_ret
 refine ⟨_,rfl,⟨w.heap.size,0,.iface tu xu,rfl,?_,?_,?_,Qcd.below Qag HU.out⟩,Qag⟩
 all_goals simp
theorem Qik (k c:Int)(w:World) :
 Calls prog 145 #[.int .i64 k,.int .i64 c] w fun e w'=>e=.returned (Qwz w.heap.size 0)∧Blk w' w.heap.size 150 #[.string (⟨#[116,117,114,110]⟩:ByteArray),.int .i64 k,Qnc c]∧Below w.heap.size w w':=by
 go_enter func145,ntmps145
 go_wp2
 go_ret
 exact ⟨rfl,Blk.new _ _ _,Qag⟩
theorem Qgc {w:World}{g:Nat}{t:TypeId}{s:ByteArray}{k c:Int} (h:Blk w g t #[.string s,.int .i64 k,Qnc c]):Qcd w (Qwz g 0) [(s,k)] c:=by
 obtain ⟨h0,h1,h2⟩:=h.three;exact ⟨g,0,Qnc c,rfl,h0,h1,h2,rfl⟩
/-! a weight that is set -/
theorem Rd3.setW {W:World}{b o m a:Nat}{x y z u:Int}{l:List Tri} (h:Rd3 W (some ⟨b,o,none⟩) m l) (ha:l[a]?=some (x,y,z)) :
 Rd3 (W.setCell ⟨b,o+a*3+2,none⟩ (.int .i64 u)) (some ⟨b,o,none⟩) m (l.set a (x,y,u)):=by
 refine ⟨by rw [Yq];exact h.1,fun i p hp=>?_⟩
 by_cases e:a=i
 · subst e
   rw [Yg (Zs ha).1] at hp
   cases hp
   obtain ⟨b',o',e',h1,h2,h3⟩:=h.2 a _ ha
   cases e'
   refine ⟨b,o,rfl,?_,?_,World.cell?_setCell_same _ _ _ h3⟩
   · rw [World.cell?_setCell_other _ _ _ _ (by intro h;simp only [Addr.mk.injEq] at h;omega)];exact h1
   · rw [World.cell?_setCell_other _ _ _ _ (by intro h;simp only [Addr.mk.injEq] at h;omega)];exact h2
 · rw [Yh e] at hp
   obtain ⟨b',o',e',h1,h2,h3⟩:=h.2 i _ hp
   cases e'
   refine ⟨b,o,rfl,?_,?_,?_⟩
   · rw [World.cell?_setCell_other _ _ _ _ (by intro h;simp only [Addr.mk.injEq] at h;omega)];exact h1
   · rw [World.cell?_setCell_other _ _ _ _ (by intro h;simp only [Addr.mk.injEq] at h;omega)];exact h2
   · rw [World.cell?_setCell_other _ _ _ _ (by intro h;simp only [Addr.mk.injEq] at h;omega)];exact h3
theorem Qut.set {W:World}{A:Option Addr}(h:Qut W A)(p:Addr)(v:Value):Qut (W.setCell p v) A:=fun b hb =>
 ⟨Yu (h b hb).1 (by simp [World.setCell]),fun o=>by rw [World.frozen?_setCell];exact (h b hb).2 o⟩
theorem GrR.setW {W:World}{F G:Nat→Prop}{g b o:Nat}{A C I O P:Option Addr}{n m k c d e ci co cp:Nat}{N:Qak}{a:Nat}{x y z u:Int}
 (h:GrR W F G g A (some ⟨b,o,none⟩) C I O P n m k c d e ci co cp N) (ha:N.ar[a]?=some (x,y,z)) (hu:wOk u=true) :
 GrR (W.setCell ⟨b,o+a*3+2,none⟩ (.int .i64 u)) F G g A (some ⟨b,o,none⟩) C I O P n m k c d e ci co cp (N.setW a x y u):=by
 have hk:Qbb G W (W.setCell ⟨b,o+a*3+2,none⟩ (.int .i64 u)):=Qbb.set W b _ _ (h.net.ga b rfl);have hA:=Qki ha u;have hz:(W.setCell ⟨b,o+a*3+2,none⟩ (.int .i64 u)).heap.size=W.heap.size:=by simp [World.setCell]
 refine ⟨⟨h.net.vs.le hk.msk,h.net.ar.setW ha,h.net.ts.le (fun c' o' v hc' hc=>?_) hk.msk,h.net.wa.set _ _,h.net.wt.set _ _,h.net.ga,h.net.gt,h.net.ac⟩,(hk g h.gg h.blk.lt).trans h.blk,h.gg,?_,?_,?_,h.sub,fun b' hb'=>by rw [hz];exact h.lt b' hb',h.ok.setW ha hu,h.c0,h.c1,h.c2⟩
 · have:b≠c':=fun e=>h.net.ac b rfl (by rw [e];exact hc')
   rw [World.cell?_setCell_other _ _ _ _ (by intro h;simp only [Addr.mk.injEq] at h;omega)];exact hc
 · show RdT _ I n (Qim (·.2.1) (N.ar.set a (x,y,u)) n)
   rw [Qmn hA.2];exact h.ins.le hk.msk
 · show RdT _ O n (Qim (·.1) (N.ar.set a (x,y,u)) n)
   rw [Qmn hA.1];exact h.outs.le hk.msk
 · show RdP _ P m (plcs (N.ar.set a (x,y,u)))
   rw [Qva hA];exact h.plc.le hk.msk
theorem Qxb {B:Nat}{W:World}{p:Addr}(h:B≤p.block)(v:Value):Below B W (W.setCell p v):=(Zr _ _).setCell h v
set_option maxHeartbeats 1000000 in
theorem gSet_ok (g a:Nat)(x y z u:Int)(N:Qak)(F:Nat→Prop)(w:World)(h:GrO w F g N) (ha:N.ar[a]?=some (x,y,z)) (hu:wOk u=true) :
 Calls prog 42 #[.pointer (some ⟨g,0,none⟩),.int .i64 a,.int .i64 u] w fun e w'=>e=.returned .nilIface∧GrO w' F g (N.setW a x y u)∧Qbb (fun b=>¬F b) w w'∧w.heap.size≤w'.heap.size∧∀ B,(∀ b,F b→B≤b)→Below B w w':=by
 have hla:=(Zs ha).1;have HA:=Zh (Qga g N a w h.rd (by omega) (by omega))
 have HW:=Zh (show ∀ V,Calls prog 95 #[.int .i64 u] V fun e w'=>e=.returned (.bool true)∧V=w' from fun V=>by
  have:=Qcl u V;rw [hu] at this;exact this)
 obtain ⟨G,A,B,C,I,O,P,n,m,k,c,d,e,ci,co,cp,hR⟩:=h;have hlm:a<m:=by rw [hR.net.ar.1] at hla;exact hla
 obtain ⟨b,o,eB,c0,c1,c2⟩:=hR.net.ar.2 a _ ha;subst eB;have n1:w.cell? ⟨g,1,none⟩=some (.slice (some ⟨b,o,none⟩) m d):=Zq hR.blk;have HN:=Zh (hR.setW ha hu);have hf:=(hR.net.wa b rfl).2 (o+a*3+2);have HF:=Zh (hR.sub b (.inr (.inl rfl)));have i1:(0:Int)≤(a:Int):=by omega
 have i2:(a:Int)<(m:Int):=by omega
 clear hR ha hu hla c0 c1
 go_enter func42,ntmps42
 go_wp2_with fail
 with_reducible refine HA.out.mono ?_
 rintro r w' ⟨rfl,rfl⟩
 go_wp2_with fail
 with_reducible refine (HW.out _).mono ?_
 rintro r w' ⟨rfl,rfl⟩
 go_wp2_with fail
 go_ret
 refine ⟨rfl,⟨G,A,_,C,I,O,P,n,m,k,c,d,e,ci,co,cp,HN.out⟩,Qbb.set _ _ _ _ (fun hn=>hn HF.out),by simp [World.setCell],fun B' hB=>Qxb (hB b HF.out) _⟩
theorem gSet_no1 (g:Nat)(a u:Int)(N:Qak)(w:World)(h:Qen w g N) (ha:¬(0≤a∧a<N.ar.length)) :
 Calls prog 42 #[.pointer (some ⟨g,0,none⟩),.int .i64 a,.int .i64 u] w fun e w'=>∃ v,e=.returned v∧Qcd w' v [((⟨#[103,114,97,112,104]⟩:ByteArray),a)] 5∧Below w.heap.size w w':=by
 have HA:=Zh (Qiv g N a w h ha);clear h ha
 go_enter func42,ntmps42
 go_wp2_with fail
 with_reducible refine HA.out.mono ?_
 rintro r w' ⟨rfl,rfl⟩
 exact Kbc
theorem gSet_no2 (g:Nat)(a u:Int)(N:Qak)(w:World)(h:Qen w g N)(h0:0≤a)(h1:a<N.ar.length)(hu:wOk u=false) :
 Calls prog 42 #[.pointer (some ⟨g,0,none⟩),.int .i64 a,.int .i64 u] w fun e w'=>∃ v,e=.returned v∧Qcd w' v [((⟨#[103,114,97,112,104]⟩:ByteArray),a)] 8∧Below w.heap.size w w':=by
 have HA:=Zh (Qga g N a w h h0 h1)
 have HW:=Zh (show ∀ V,Calls prog 95 #[.int .i64 u] V fun e w'=>e=.returned (.bool false)∧V=w' from fun V=>by
  have:=Qcl u V;rw [hu] at this;exact this)
 clear h h0 h1 hu
 go_enter func42,ntmps42
 go_wp2_with fail
 with_reducible refine HA.out.mono ?_
 rintro r w' ⟨rfl,rfl⟩
 go_wp2_with fail
 with_reducible refine (HW.out _).mono ?_
 rintro r w' ⟨rfl,rfl⟩
 go_wp2_with fail
 with_reducible refine (Qfc _ _ [] 8 _ (Qij _ 8)).mono ?_
 rintro r w' ⟨v,rfl,hc,hb⟩;obtain ⟨tv,xv,rfl⟩:=Qbj hc;have HCH:=Zh hc;clear hc
 go_wp2_with fail
 go_ret
 exact ⟨_,rfl,HCH.out,Qag⟩
theorem Own.setAt {W:World}{B n c k s g o:Nat}{e:TypeId}{xs:List Value} (h:Own W B e s (some ⟨g,o,none⟩) n c xs) (v:Value):Own (W.setCell ⟨g,o+k,none⟩ v) B e s (some ⟨g,o,none⟩) n c (xs.set k v):=by
 refine ⟨by rw [Yq];exact h.1,?_⟩
 exact Kbq
theorem Qji (l:List Int)(k:Nat)(x:Int):(Qaf l).set k (.int .i64 x)=Qaf (l.set k x):=by simp [Qaf,List.map_set]
theorem Ram {p q n i o:Nat} (hn:(n:Int)=(p:Int)*(q:Int)) (hi:i<p) (ho:o<q):i*q+o<n:=by
 have h1:n=p*q:=by exact_mod_cast hn
 have h2:(i+1)*q≤p*q:=Nat.mul_le_mul_right _ hi;rw [Nat.add_mul,Nat.one_mul] at h2;omega
set_option maxHeartbeats 1000000 in
theorem tWith_ok (A:Option Addr)(n c p q i o:Nat)(cs:List Int)(u:Int)(w:World)(h:RdI w A n cs)(ht:Qhf ⟨p,q,cs⟩)(hi:i<p)(ho:o<q)(hu:wOk u=true) :
 Calls prog 98 #[.agg #[.int .i64 p,.int .i64 q,.slice A n c],.int .i64 i,.int .i64 o,.int .i64 u] w fun e w'=>∃ A' c',e=.returned (.tuple #[.agg #[.int .i64 p,.int .i64 q,.slice A' n c'],.nilIface])∧Own w' w.heap.size 2 1 A' n c' (Qaf (cs.set (i*q+o) u))∧Below w.heap.size w w':=by
 have hlen:(n:Int)=(p:Int)*(q:Int):=by have:=ht.len;simp only at this;rw [h.1] at this;exact this
 have hkn:=Ram hlen hi ho;have hm:=Qlf ht.i0 ht.i16 ht.o0 ht.o16;simp only at hm;have hn:n≤256:=by omega
 have HCK:=Zh (fun (V:World) (hV:Below w.heap.size w V)=>Qjf A n c ⟨p,q,cs⟩ V (h.below hV) ht);simp only at HCK;have HCL:=Zh (fun (V:World) (hV:Below w.heap.size w V)=>Qmd A n c (Qaf cs) V ((h.below hV).rdsI) (Qao _) (by omega))
 have HW:=Zh (show ∀ V,Calls prog 95 #[.int .i64 u] V fun e w'=>e=.returned (.bool true)∧V=w' from fun V=>by
  have:=Qcl u V;rw [hu] at this;exact this)
 have hq16:q≤16:=by have:=ht.o16;simp only at this;omega
 have hp16:p≤16:=by have:=ht.i16;simp only at this;omega
 obtain ⟨k0,hk0⟩:∃ k0,k0=i*q:=⟨_,rfl⟩;obtain ⟨k,hk⟩:∃ k,k=i*q+o:=⟨_,rfl⟩;rw [←hk] at hkn;have m1:(i:Int)*(q:Int)=(k0:Int):=by rw [hk0];simp
 have m2:(k0:Int)+(o:Int)=(k:Int):=by omega
 have wk0:IntKind.i64.wrap (k0:Int)=(k0:Int):=IntWalk.i64_in _ (by omega);have wk:IntKind.i64.wrap (k:Int)=(k:Int):=IntWalk.i64_in _ (by omega);have i1:¬((i:Int)<0):=by omega
 have i2:¬((p:Int)≤(i:Int)):=by omega
 have i3:¬((o:Int)<0):=by omega
 have i4:¬((q:Int)≤(o:Int)):=by omega
 have i5:(0:Int)≤(k:Int):=by omega
 have i6:(k:Int)<(n:Int):=by omega
 rw [←hk];have HKN:=Zh hkn;clear h ht hu hlen hm hk0 hk hkn hi ho hq16 hp16
 go_enter func98,ntmps98
 go_wp2_with fail
 with_reducible refine (HW.out _).mono ?_
 rintro r w' ⟨rfl,rfl⟩
 go_wp2_with fail
 (refine Qab ?_;intro w1 hw1)
 have hb1:Below w.heap.size w w1:=by rw [hw1];exact Qag
 have hT1:Blk w1 w.heap.size 193 #[.int .i64 p,.int .i64 q,.slice A n c]:=by rw [hw1];exact Qay
 have hR1:Blk w1 (w.heap.size+1) 193 #[.int .i64 0,.int .i64 0,.slice none 0 0]:=by rw [hw1];exact Qay
 have hz1:w.heap.size+2≤w1.heap.size:=by rw [hw1];simp
 clear hw1;with_reducible refine (HCK.out w1 hb1).mono ?_
 rintro r w2 ⟨rfl,hb2⟩;have hb2':=Zb hb1 hb2;have hT2:=hT1.below hb2 hT1.lt;have hR2:=hR1.below hb2 hR1.lt;have hz2:w.heap.size+2≤w2.heap.size:=Yx hz1 hb2.size;clear hT1 hR1 hb1 hb2 hz1;obtain ⟨t0,t1,t2⟩:=hT2.three
 go_wp2_with fail
 with_reducible refine (HCL.out w2 hb2').mono ?_
 rintro r w3 ⟨A3,c3,rfl,hown,hb3⟩;have hb3':=Zb hb2' hb3;have hT3:=hT2.below hb3 hT2.lt;have hR3:=hR2.below hb3 hR2.lt;have hz3:w.heap.size+2≤w3.heap.size:=Yx hz2 hb3.size;have hown:=hown.mono hz2;clear hT2 hR2 hb2' hb3 hz2 t0 t1 t2;obtain ⟨gb,cur,rfl,hg0,hgb,_,hcz,hcu⟩:=hown.block (by have:=HKN.out;omega);obtain ⟨t0,t1,t2⟩:=hT3.three;have ft2:=hT3.frozen 2;have ne1:¬gb=w.heap.size:=by omega
 have ne2:¬w.heap.size=gb:=by omega
 obtain ⟨v0,hv0⟩:∃ v0,cur[k]?=some v0:=⟨_,Array.getElem?_eq_getElem (by have:=HKN.out;omega)⟩;have ck:w3.cell? ⟨gb,k,none⟩=some v0:=by rw [hgb.cell];exact hv0
 have fk:=hgb.frozen k;obtain ⟨r0,r1,r2⟩:=hR3.three;have fr0:=hR3.frozen 0;have fr1:=hR3.frozen 1;have fr2:=hR3.frozen 2;have hO1:Own (w3.setCell ⟨w.heap.size,2,none⟩ (.slice (some ⟨gb,0,none⟩) n c3)) (w.heap.size+2) 2 1 (some ⟨gb,0,none⟩) n c3 (Qaf cs):=ownsRow_setCell_below hown (by simp only;omega) _;have HO:=Zh (hO1.setAt (k:=k) (.int .i64 u));clear hO1;clear hown hgb hcz hcu hv0
 go_wp2_with fail
 refine bodyPost_ret (v:=.tuple #[.agg #[.int .i64 p,.int .i64 q,.slice (some ⟨gb,0,none⟩) n c3],.nilIface]) (by simp [results,results98,go_sem,r0,r1,r2]) rfl ?_;refine ⟨_,_,rfl,?_,((((hb3'.setCell (Zn _) _).setCell (by simp only;omega) _).setCell (by simp only;omega) _).setCell (by simp only;omega) _).setCell (by simp only;omega) _⟩;have h1:=HO.out;rw [Yz,Qji] at h1;exact Own.mono (ownsRow_setCell_below (ownsRow_setCell_below (ownsRow_setCell_below h1 (a:=⟨w.heap.size+1,0,none⟩) (by simp only;omega) _) (a:=⟨w.heap.size+1,1,none⟩) (by simp only;omega) _) (a:=⟨w.heap.size+1,2,none⟩) (by simp only;omega) _) (by omega)
def Qff (p q i o u:Int):Option (Int×Int):=if i<0∨p≤i then some (0,5) else if o<0∨q≤o then some (1,5) else if wOk u=false then some (2,8) else none
set_option maxHeartbeats 1000000 in
theorem tWith_no (A:Option Addr)(n c:Nat)(p q i o u x y:Int)(w:World) (h:Qff p q i o u=some (x,y)) :
 Calls prog 98 #[.agg #[.int .i64 p,.int .i64 q,.slice A n c],.int .i64 i,.int .i64 o,.int .i64 u] w fun e w'=>∃ v,e=.returned (.tuple #[.agg #[.int .i64 0,.int .i64 0,.slice none 0 0],v])∧Qcd w' v [((⟨#[116,117,114,110]⟩:ByteArray),x)] y∧Below w.heap.size w w':=by
 unfold Qff at h
 by_cases i1:i<0
 · rw [if_pos (.inl i1)] at h
   exact Kai
 by_cases i2:p≤i
 · rw [if_pos (.inr i2)] at h
   exact Kai
 rw [if_neg (by omega)] at h
 by_cases o1:o<0
 · rw [if_pos (.inl o1)] at h
   exact Kai
 by_cases o2:q≤o
 · rw [if_pos (.inr o2)] at h
   exact Kai
 rw [if_neg (by omega)] at h
 cases hu:wOk u
 · rw [if_pos hu] at h
   cases h
   have HW:=Zh (show ∀ V,Calls prog 95 #[.int .i64 u] V fun e w'=>e=.returned (.bool false)∧V=w' from fun V=>by
    have:=Qcl u V;rw [hu] at this;exact this)
   clear hu
   go_enter func98,ntmps98
   go_wp2_with fail
   with_reducible refine (HW.out _).mono ?_
   rintro r w' ⟨rfl,rfl⟩
   go_wp2_with fail
   (refine Qab ?_;intro w1 hw1)
   have hb1:Below w.heap.size w w1:=by rw [hw1];exact Qag
   have hR1:Blk w1 (w.heap.size+1) 193 #[.int .i64 0,.int .i64 0,.slice none 0 0]:=by rw [hw1];exact Qay
   have hz1:w.heap.size+2≤w1.heap.size:=by rw [hw1];simp
   clear hw1;with_reducible refine (Qik _ _ _).mono ?_
   rintro r w2 ⟨rfl,hc,hb⟩;have hb2:=Zb hb1 hb;have hR2:=hR1.below hb hR1.lt;clear hb hR1 hb1;obtain ⟨r0,r1,r2⟩:=hR2.three;have fr0:=hR2.frozen 0;have fr1:=hR2.frozen 1;have fr2:=hR2.frozen 2
   go_wp2_with fail
   refine bodyPost_ret (v:=.tuple #[.agg #[.int .i64 0,.int .i64 0,.slice none 0 0],Qwz w1.heap.size 0]) (by simp [results,results98,go_sem,r0,r1,r2]) rfl ?_;exact ⟨_,rfl,Qgc (((hc.far (by simp only;omega) _).far (by simp only;omega) _).far (by simp only;omega) _),((hb2.setCell (by simp only;omega) _).setCell (by simp only;omega) _).setCell (by simp only;omega) _⟩
 · rw [if_neg (by rw [hu];simp)] at h
   cases h
def set3 (W:World)(c q:Nat)(x y z:Value):World:=((W.setCell ⟨c,q,none⟩ x).setCell ⟨c,q+1,none⟩ y).setCell ⟨c,q+2,none⟩ z
theorem set3_at {W:World}{c q:Nat}{x y z a b d:Value}(h0:W.cell? ⟨c,q,none⟩=some a)(h1:W.cell? ⟨c,q+1,none⟩=some b)(h2:W.cell? ⟨c,q+2,none⟩=some d) :
 (set3 W c q x y z).cell? ⟨c,q,none⟩=some x∧(set3 W c q x y z).cell? ⟨c,q+1,none⟩=some y∧(set3 W c q x y z).cell? ⟨c,q+2,none⟩=some z:=by
 unfold set3;refine ⟨?_,?_,?_⟩
 · rw [World.cell?_setCell_other _ _ _ _ (by intro h;simp only [Addr.mk.injEq] at h;omega),World.cell?_setCell_other _ _ _ _ (by intro h;simp only [Addr.mk.injEq] at h;omega)]
   exact World.cell?_setCell_same _ _ _ h0
 · rw [World.cell?_setCell_other _ _ _ _ (by intro h;simp only [Addr.mk.injEq] at h;omega)]
   refine World.cell?_setCell_same _ _ _ (?_:_=some b);rw [World.cell?_setCell_other _ _ _ _ (by intro h;simp only [Addr.mk.injEq] at h;omega)];exact h1
 · refine World.cell?_setCell_same _ _ _ (?_:_=some d)
   rw [World.cell?_setCell_other _ _ _ _ (by intro h;simp only [Addr.mk.injEq] at h;omega),World.cell?_setCell_other _ _ _ _ (by intro h;simp only [Addr.mk.injEq] at h;omega)];exact h2
theorem Qjt {W:World}{c q g i:Nat}{x y z:Value}(h:g≠c∨i<q∨q+2<i):(set3 W c q x y z).cell? ⟨g,i,none⟩=W.cell? ⟨g,i,none⟩:=by
 unfold set3;rw [World.cell?_setCell_other _ _ _ _ (by intro h;simp only [Addr.mk.injEq] at h;omega),World.cell?_setCell_other _ _ _ _ (by intro h;simp only [Addr.mk.injEq] at h;omega),World.cell?_setCell_other _ _ _ _ (by intro h;simp only [Addr.mk.injEq] at h;omega)]
theorem Qlp (W:World)(c q:Nat)(x y z:Value):(set3 W c q x y z).heap.size=W.heap.size:=by simp [set3,World.setCell]
theorem Qna {B:Nat}{V W:World}(h:Below B V W){c:Nat}(hc:B≤c)(q:Nat)(x y z:Value):Below B V (set3 W c q x y z):=((h.setCell hc _).setCell hc _).setCell hc _
theorem Qut.set3 {W:World}{A:Option Addr}(h:Qut W A)(c q:Nat)(x y z:Value):Qut (set3 W c q x y z) A:=((h.set _ _).set _ _).set _ _
theorem Qbb.set3 {G:Nat→Prop}{V W:World}(h:Qbb G V W)(hz:V.heap.size≤W.heap.size){c:Nat}(hc:¬G c)(q:Nat)(x y z:Value):Qbb G V (set3 W c q x y z):=by
 have a1:=Qbb.set (G:=G) W c q x hc;have a2:=Qbb.set (G:=G) (W.setCell ⟨c,q,none⟩ x) c (q+1) y hc;have a3:=Qbb.set (G:=G) ((W.setCell ⟨c,q,none⟩ x).setCell ⟨c,q+1,none⟩ y) c (q+2) z hc;have z1:(W.setCell ⟨c,q,none⟩ x).heap.size=W.heap.size:=by simp [World.setCell]
 have z2:((W.setCell ⟨c,q,none⟩ x).setCell ⟨c,q+1,none⟩ y).heap.size=W.heap.size:=by simp [World.setCell]
 exact ((h.trans a1 hz).trans a2 (by omega)).trans a3 (by omega)
theorem Qua.setT {W v v':World}{c o k p n' c':Nat}{A':Option Addr}{t t':Qcv}{ts:List Qcv} (h:Qua W v (some ⟨c,o,none⟩) k ts) (ht:ts[p]?=some t) (hl:Le v v') (hr:RdI v' A' n' t'.costs) (hc:n'≤c'∧c'≤9223372036854775807) :
 Qua (set3 W c (o+p*3) (.int .i64 t'.ins) (.int .i64 t'.outs) (.slice A' n' c')) v' (some ⟨c,o,none⟩) k (ts.set p t'):=by
 refine ⟨by rw [Yq];exact h.1,fun i s hs=>?_⟩
 by_cases e:p=i
 · subst e
   rw [Yg (Zs ht).1] at hs
   cases hs
   obtain ⟨b',o',e',h1,h2,A2,n2,c2,h3,_⟩:=h.2 p t ht
   cases e'
   obtain ⟨g1,g2,g3⟩:=set3_at (x:=.int .i64 t'.ins) (y:=.int .i64 t'.outs) (z:=.slice A' n' c') h1 h2 h3;exact ⟨c,o,rfl,g1,g2,A',n',c',g3,hr,hc.1,hc.2⟩
 · rw [Yh e] at hs
   obtain ⟨b',o',e',h1,h2,A2,n2,c2,h3,h4,h5⟩:=h.2 i s hs
   cases e'
   exact ⟨c,o,rfl,by rw [Qjt (by omega)];exact h1,by rw [Qjt (by omega)];exact h2,A2,n2,c2,by rw [Qjt (by omega)];exact h3,h4.le hl,h5⟩
theorem GrR.bend {W W1:World}{F G:Nat→Prop}{g c o:Nat}{A B I O P:Option Addr}{n m k cc d e ci co cp:Nat}{N:Qak}{p j n' c':Nat}{A':Option Addr}{t:Qcv}{u:Int}
 (h:GrR W F G g A B (some ⟨c,o,none⟩) I O P n m k cc d e ci co cp N) (hb:Below W.heap.size W W1) (ht:N.ts[p]?=some t) (hu:wOk u=true)
 (hown:Own W1 W.heap.size 2 1 A' n' c' (Qaf (t.turn j u).costs)) :
 GrR (set3 W1 c (o+p*3) (.int .i64 t.ins) (.int .i64 t.outs) (.slice A' n' c')) (fun b=>F b∨(W.heap.size≤b∧b<W1.heap.size)) (fun b=>G b∨(W.heap.size≤b∧b<W1.heap.size)) g A B (some ⟨c,o,none⟩) I O P n m k cc d e ci co cp (N.bend p (t.turn j u)):=by
 have hFc:F c:=h.sub c (.inr (.inr rfl));have hclt:=h.lt c hFc
 have hGc:¬(G c∨(W.heap.size≤c∧c<W1.heap.size)):=by
  rintro (h'|h')
  · exact h.net.gt c rfl h'
  · omega
 have hGB:∀ b,Qac B=some b→¬(G b∨(W.heap.size≤b∧b<W1.heap.size)):=fun b e h'=>by
  rcases h' with h'|h'
  · exact h.net.ga b e h'
  · have:=h.lt b (h.sub b (.inr (.inl e)));omega
 have hN:=(h.net.below hb).mono (G':=fun b=>G b∨(W.heap.size≤b∧b<W1.heap.size)) (fun _ h=>.inl h) hGB (fun b e=>by cases e;exact hGc)
 have hk:Qbb (fun b=>G b∨(W.heap.size≤b∧b<W1.heap.size)) W1 (set3 W1 c (o+p*3) (.int .i64 t.ins) (.int .i64 t.outs) (.slice A' n' c')):=(Qbb.refl _ _).set3 (Zn _) hGc _ _ _ _;have hkG:Qbb G W (set3 W1 c (o+p*3) (.int .i64 t.ins) (.int .i64 t.outs) (.slice A' n' c')):=(Qbb.below hb).set3 hb.size (fun h'=>hGc (.inl h')) _ _ _ _;have hne:∀ b,Qac A'=some b→b≠c:=fun b e=>by have:=(hown.lt b e).1;omega
 have hr:RdI (msk (set3 W1 c (o+p*3) (.int .i64 t.ins) (.int .i64 t.outs) (.slice A' n' c')) (fun b=>G b∨(W.heap.size≤b∧b<W1.heap.size))) A' n' (t.turn j u).costs:=by
  refine RdK.msk ?_ (fun b e=>.inr (hown.lt b e));refine RdK.keepB (hown.rds.rdI) (fun b e=>?_);exact hk b (.inr (hown.lt b e)) (hown.lt b e).2
 have hml:Le (msk W G) (msk (set3 W1 c (o+p*3) (.int .i64 t.ins) (.int .i64 t.outs) (.slice A' n' c')) (fun b=>G b∨(W.heap.size≤b∧b<W1.heap.size))):=hkG.msk.trans (Qbe (fun _ h=>.inl h));have hsz:=Qlp W1 c (o+p*3) (.int .i64 t.ins) (.int .i64 t.outs) (.slice A' n' c');refine ⟨⟨hN.vs.le hk.msk,hN.ar.keep (fun b e=>?_),hN.ts.setT ht hk.msk hr ⟨hown.cap,hown.capMax⟩,hN.wa.set3 _ _ _ _ _,hN.wt.set3 _ _ _ _ _,hN.ga,hN.gt,hN.ac⟩,(hkG g h.gg h.blk.lt).trans h.blk,.inl h.gg,h.ins.le hml,h.outs.le hml,h.plc.le hml,fun b hb'=>?_,fun b hb'=>?_,h.ok.bend ht hu,h.c0,h.c1,h.c2⟩
 · have hlt:=(hN.wa b e).1
   have hbc:b≠c:=fun e'=>h.net.ac b e (by rw [e'];rfl)
   exact (Qbb.refl (fun b=>b≠c) W1).set3 (Zn _) (fun h=>h rfl) _ _ _ _ b hbc hlt
 · rcases hb' with (h'|h')|h'|h'
   · exact .inl (h.sub b (.inl h'))
   · exact .inr h'
   · exact .inl (h.sub b (.inr (.inl h')))
   · exact .inl (h.sub b (.inr (.inr h')))
 · rw [hsz]
   rcases hb' with h'|h'
   · exact Yu (h.lt b h') hb.size
   · exact h'.2
set_option maxHeartbeats 1000000 in
theorem gBend_ok (g p i o ti to_:Nat)(cs:List Int)(u:Int)(N:Qak)(F:Nat→Prop)(w:World)(h:GrO w F g N) (ht:N.ts[p]?=some ⟨ti,to_,cs⟩) (hi:i<ti) (ho:o<to_) (hu:wOk u=true) :
 Calls prog 44 #[.pointer (some ⟨g,0,none⟩),.int .i64 p,.int .i64 i,.int .i64 o,.int .i64 u] w fun e w'=>e=.returned .nilIface∧(∃ F':Nat→Prop,(∀ b,F' b→F b∨w.heap.size≤b)∧GrO w' F' g (N.bend p ((⟨ti,to_,cs⟩:Qcv).turn (i*to_+o) u)))∧Qbb (fun b=>¬F b) w w'∧w.heap.size≤w'.heap.size∧∀ B,B≤w.heap.size→(∀ b,F b→B≤b)→Below B w w':=by
 have hlt:=(Zs ht).1;have hT:Qhf ⟨ti,to_,cs⟩:=h.ok.tabs _ (Zm ht);obtain ⟨G,A,B,C,I,O,P,n,m,k,c,d,e,ci,co,cp,hR⟩:=h;have hpk:p<k:=by rw [hR.net.ts.1] at hlt;exact hlt
 obtain ⟨cb,co_,eC,c0,c1,A1,n1,cc1,c2,hr1,hcp⟩:=hR.net.ts.2 p _ ht;subst eC;have hr1:=hr1.le (Qbd w G);have n2:w.cell? ⟨g,2,none⟩=some (.slice (some ⟨cb,co_,none⟩) k e):=Zq hR.blk;have HWT:=Zh (fun (V:World) (hV:Below w.heap.size w V)=>tWith_ok A1 n1 cc1 ti to_ i o cs u V (hr1.below hV) hT hi ho hu);have HR:=Zh hR;have HB:=Zh (fun (W1:World) (hb:Below w.heap.size w W1) (A':Option Addr) (n' c':Nat) hown=>hR.bend (p:=p) (j:=i*to_+o) (A':=A') (n':=n') (c':=c') hb ht hu hown);have hFc:F cb:=hR.sub cb (.inr (.inr rfl));have hcl:=hR.lt cb hFc;have HF:=Zh hFc;have fz:=fun x=>(hR.net.wt cb rfl).2 x
 have i1:(0:Int)≤(p:Int):=by omega
 have i2:(p:Int)<(k:Int):=by omega
 have i3:¬((p:Int)<0):=by omega
 have i4:¬((k:Int)≤(p:Int)):=by omega
 have hglt:g<w.heap.size:=hR.blk.lt
 have hgc:¬g=cb:=fun e=>hR.net.gt cb rfl (by rw [←e];exact hR.gg)
 simp only at c0 c1 c2;have fz0:=fz (co_+p*3);have fz1:=fz (co_+p*3+1);have fz2:=fz (co_+p*3+2);clear hR ht hu hlt hT hr1 hi ho fz hFc
 go_enter func44,ntmps44
 go_wp2_with fail
 with_reducible refine (HWT.out w (Zr _ _)).mono ?_
 rintro r w2 ⟨A2,c3,rfl,hown,hb2⟩;have HO:=Zh hown;clear hown HWT
 go_wp2_with fail
 obtain ⟨w3,hw3⟩:∃ X,X=w2.alloc (.cells #[.int .i64 ti,.int .i64 to_,.slice A2 n1 c3] 193):=⟨_,rfl⟩;rw [←hw3];have hT3:Blk w3 w2.heap.size 193 #[.int .i64 ti,.int .i64 to_,.slice A2 n1 c3]:=by rw [hw3];exact Blk.new _ _ _
 have hb3:Below w.heap.size w w3:=by rw [hw3];exact Qag
 have HO3:=Zh (show Own w3.drew w.heap.size 2 1 A2 n1 c3 (Qaf (cs.set (i*to_+o) u)) by rw [hw3];exact (HO.out.alloc _).drew)
 have hz2:=hb2.size;have n3:=Zc hb3 (Zn _) n2;have e0:=Zc hb3 (Zn _) c0;have e1:=Zc hb3 (Zn _) c1;have e2:=Zc hb3 (Zn _) c2;have f0:=(Below.frozenOf hb3 (a:=⟨cb,co_+p*3,none⟩) hcl).trans fz0;have f1:=(Below.frozenOf hb3 (a:=⟨cb,co_+p*3+1,none⟩) hcl).trans fz1;have f2:=(Below.frozenOf hb3 (a:=⟨cb,co_+p*3+2,none⟩) hcl).trans fz2;have htc:w2.heap.size≠cb:=by omega
 obtain ⟨gt,hgt⟩:∃ x,x=w2.heap.size:=⟨_,rfl⟩;rw [←hgt] at hT3 htc ⊢;clear hw3 hb2 HO n2 c0 c1 c2 fz0 fz1 fz2 hgt hz2;have HSX:=Zh (show ∀ X:World,(X.cell? ⟨g,2,none⟩=some (.slice (some ⟨cb,co_,none⟩) k e)∧Blk X gt 193 #[.int .i64 ti,.int .i64 to_,.slice A2 n1 c3])→X.cell? ⟨g,2,none⟩=some (.slice (some ⟨cb,co_,none⟩) k e)∧X.cell? ⟨gt,0,none⟩=some (.int .i64 ti)∧X.cell? ⟨gt,1,none⟩=some (.int .i64 to_)∧X.cell? ⟨gt,2,none⟩=some (.slice A2 n1 c3) from fun X hX=>⟨hX.1,hX.2.three⟩)
 refine wp_region_held_drew (S:=fun X=>X.cell? ⟨g,2,none⟩=some (.slice (some ⟨cb,co_,none⟩) k e)∧Blk X gt 193 #[.int .i64 ti,.int .i64 to_,.slice A2 n1 c3]) (by kernel_rfl) ⟨n3,hT3.drew⟩ (fun _=>?_);refine tz 0 48 ?_;refine tz 1 49 ?_;refine tz 2 50 ?_;refine tz 3 51 ?_;refine tz 4 52 ?_;refine tz 5 53 ?_;refine tz 6 54 ?_;refine tz 7 55 ?_;have e0':w3.drew.cell? ⟨cb,co_+p*3,none⟩=_:=e0;have e1':w3.drew.cell? ⟨cb,co_+p*3+1,none⟩=_:=e1;have e2':w3.drew.cell? ⟨cb,co_+p*3+2,none⟩=_:=e2;refine Zk 8 (fun K hK=>?_);go_simp;refine hK.out _ _ ⟨?_,((hT3.drew.far (by simp only;omega) _).far (by simp only;omega) _).far (by simp only;omega) _⟩ (fun _=>?_)
 · have:=Qjt (W:=w3.drew) (c:=cb) (q:=co_+p*3) (g:=g) (i:=2) (x:=.int .i64 ti) (y:=.int .i64 to_) (z:=.slice A2 n1 c3) (.inl hgc)
   exact this.trans n3
 clear hK K;refine Zd ?_
 go_wp2_with fail
 go_ret
 have hz3:w3.drew.heap.size=w3.heap.size:=rfl;refine ⟨rfl,⟨_,?_,⟨_,A,B,_,I,O,P,n,m,k,c,d,e,ci,co,cp,HB.out w3.drew hb3.drew A2 n1 c3 HO3.out⟩⟩,(Qbb.below hb3.drew).set3 hb3.size (fun hn=>hn HF.out) _ _ _ _,?_,fun B' hB1 hB2=>Qna (hb3.drew.mono hB1) (hB2 _ HF.out) _ _ _ _⟩
 · exact fun b hb=>hb.imp id (fun h=>h.1)
 · have:=Qlp w3.drew cb (co_+p*3) (.int .i64 ti) (.int .i64 to_) (.slice A2 n1 c3)
   exact Yx hb3.size (Nat.le_of_eq this.symm)
def Qhu (N:Qak)(p i o u:Int):Option (List (ByteArray×Int)×Int) :=
 if p<0∨N.ts.length≤p then some ([((⟨#[103,114,97,112,104]⟩:ByteArray),p)],5) else
 match N.ts[p.toNat]? with
 | none=>none
 | some t=>(Qff t.ins t.outs i o u).map (fun q=>([((⟨#[103,114,97,112,104]⟩:ByteArray),p),((⟨#[116,117,114,110]⟩:ByteArray),q.1)],q.2))
set_option maxHeartbeats 1000000 in
theorem gBend_no (g:Nat)(p i o u:Int)(N:Qak) (ps:List (ByteArray×Int)) (c0:Int) (w:World) (h:Qen w g N) (hno:Qhu N p i o u=some (ps,c0)) :
 Calls prog 44 #[.pointer (some ⟨g,0,none⟩),.int .i64 p,.int .i64 i,.int .i64 o,.int .i64 u] w fun e w'=>∃ v,e=.returned v∧Qcd w' v ps c0∧Below w.heap.size w w':=by
 obtain ⟨A,B,C,I,O,P,n,m,k,c,d,e,ci,co,cp,hR⟩:=h;have n2:=hR.n2;have hlk:N.ts.length=k:=hR.net.2.2.1;have HR:=Zh hR;clear hR;unfold Qhu at hno;rw [hlk] at hno
 by_cases i1:p<0
 · rw [if_pos (.inl i1)] at hno
   cases hno
   go_enter func44,ntmps44
   exact Kbc
 by_cases i2:(k:Int)≤p
 · rw [if_pos (.inr i2)] at hno
   cases hno
   go_enter func44,ntmps44
   exact Kbc
 rw [if_neg (by omega)] at hno;obtain ⟨q,rfl⟩:∃ q:Nat,p=q:=⟨p.toNat,by omega⟩;obtain ⟨cb,co_,t,rfl,ht,c0',c1,A1,n1,cc1,c2,_,_⟩:=HR.out.net.2.2.at_ (i:=q) (by omega);simp only [Yl,ht] at hno
 cases hw:Qff t.ins t.outs i o u with
 | none=>rw [hw] at hno;cases hno
 | some xy =>
 rw [hw] at hno;obtain ⟨x,y⟩:=xy
 cases hno
 have HW:=Zh (fun V=>tWith_no A1 n1 cc1 t.ins t.outs i o u x y V hw);have i3:(0:Int)≤(q:Int):=by omega
 have i4:(q:Int)<(k:Int):=by omega
 clear hw ht
 go_enter func44,ntmps44
 go_wp2_with fail
 with_reducible refine (HW.out _).mono ?_
 rintro r w2 ⟨v,rfl,hc,hb⟩;obtain ⟨tv,xv,rfl⟩:=Qbj hc;have HCH:=Zh hc;clear hc
 go_wp2_with fail
 (refine Qab ?_;intro w3 hw3)
 have hb3:Below w.heap.size w w3:=by rw [hw3];exact Qag
 have hc3:Qcd w3 (.iface tv xv) [((⟨#[116,117,114,110]⟩:ByteArray),x)] y:=by rw [hw3];exact Qcd.below Qag HCH.out
 clear hw3;with_reducible refine (Qfc _ _ _ _ _ hc3).mono ?_
 rintro r w' ⟨v,rfl,hc,hb'⟩;obtain ⟨tv',xv',rfl⟩:=Qbj hc;have HCH2:=Zh hc;clear hc hc3
 go_wp2_with fail
 go_ret
 exact ⟨_,rfl,HCH2.out,Zb hb3 hb'⟩
def YwR (W:World)(B:Nat)(A:Option Addr)(n c:Nat)(xs:List Value)(ls:List Qcv):Prop :=
 Own W B 122 3 A n c xs∧ls.length=n∧∀ j t,ls[j]?=some t→∃ A2 n2 c2,xs[j*3]?=some (.int .i64 t.ins)∧xs[j*3+1]?=some (.int .i64 t.outs)∧xs[j*3+2]?=some (.slice A2 n2 c2)∧RdI W A2 n2 t.costs∧(∀ g,Qac A2=some g→B≤g∧g<W.heap.size∧Qac A≠some g)∧n2≤c2∧c2≤9223372036854775807
theorem YwR.nil (W:World)(B:Nat):YwR W B none 0 0 [] []:=⟨Own.nil _ _ _ _,rfl,fun j l h=>by simp at h⟩
theorem YwR.push {W w':World}{B n c c' m d:Nat}{A A' R:Option Addr}{xs:List Value}{ls:List Qcv}{t:Qcv}(h:YwR W B A n c xs ls)
 (hown:Own w' B 122 3 A' (n+1) c' (xs ++[.int .i64 t.ins,.int .i64 t.outs,.slice R m d])) (hg:W.grownBy w' (Qac A)) (hat:Qac A'=Qac A∨Qac A'=some W.heap.size)
 (hr:RdI W R m t.costs) (hne:∀ g,Qac R=some g→B≤g∧g<W.heap.size∧Qac A≠some g) (h4:m≤d) (h5:d≤9223372036854775807):YwR w' B A' (n+1) c' (xs ++[.int .i64 t.ins,.int .i64 t.outs,.slice R m d]) (ls ++[t]):=by
 exact Kaq
theorem YwR.below {W W':World}{B n c:Nat}{A:Option Addr}{xs:List Value}{ls:List Qcv}(h:YwR W B A n c xs ls)(hb:Below W.heap.size W W'):YwR W' B A n c xs ls :=
 ⟨h.1.below hb,h.2.1,fun i l hl=>by
  obtain ⟨A',n',c',p1,p2,p3,h2,h3,h4,h5⟩:=h.2.2 i l hl;exact ⟨A',n',c',p1,p2,p3,h2.below hb,fun g hg=>⟨(h3 g hg).1,Yu (h3 g hg).2.1 hb.size,(h3 g hg).2.2⟩,h4,h5⟩⟩
theorem YwR.far {W W':World}{B n c:Nat}{A:Option Addr}{xs:List Value}{ls:List Qcv}(h:YwR W B A n c xs ls){g:Nat} (hg:W.grownBy W' (some g)) (hB:g<B):YwR W' B A n c xs ls :=
 ⟨h.1.far hg (.inr (fun e=>by have:=(h.1.lt g e).1;omega)),h.2.1,fun i l hl=>by
  obtain ⟨A',n',c',p1,p2,p3,h2,h3,h4,h5⟩:=h.2.2 i l hl;refine ⟨A',n',c',p1,p2,p3,h2.grownN hg (fun k hk e=>?_),fun k hk=>⟨(h3 k hk).1,Yu (h3 k hk).2.1 hg.size,(h3 k hk).2.2⟩,h4,h5⟩
  cases e
  have:=(h3 g hk).1;omega⟩
theorem Qgb:(Tryz.prog.info? 124).map (fun i=>(i.zero,i.size,i.bytes))=some (some (.agg #[.int .i64 0,.int .i64 0,.int .i64 0]),3,24):=by kernel_rfl
theorem Qej:(Tryz.prog.info? 119).map (fun i=>(i.zero,i.size,i.bytes))=some (some (.agg #[.int .i64 0,.int .i64 0,.int .i64 0]),3,24):=by kernel_rfl
theorem infoRT:(Tryz.prog.info? 122).map (fun i=>(i.zero,i.size,i.bytes))=some (some (.agg #[.int .i64 0,.int .i64 0,.slice none 0 0]),3,40):=by kernel_rfl
structure CpS (w1 W:World) (V:Option Addr) (nv cv:Nat) (xv:List Value) (A:Option Addr) (na ca:Nat) (xa:List Value) (N:Option Nat):Prop where
 bel:Below w1.heap.size w1 W
 v:Own W w1.heap.size 124 3 V nv cv xv
 a:Own W w1.heap.size 119 3 A na ca xa
 dj:∀ g,Qac V=some g→Qac A≠some g
 nw:∀ g,N=some g→Blk W g 26 #[.slice none 0 0,.slice none 0 0,.slice none 0 0]∧w1.heap.size≤g∧Qac V≠some g∧Qac A≠some g
section
variable {w1 W w':World} {V A V' A':Option Addr} {nv cv na ca nv' cv' na' ca':Nat} {xv xa xv' xa':List Value} {N:Option Nat}
theorem CpS.start (w1:World):CpS w1 w1.drew none 0 0 [] none 0 0 [] none:=⟨(Zr _ _).drew,Own.nil _ _ _ _,Own.nil _ _ _ _,fun g h=>by (cases h),fun g h=>by (cases h)⟩
theorem CpS.newV (h:CpS w1 W none 0 0 [] A na ca xa N):CpS w1 (W.alloc (.cells #[] 124)) (some ⟨W.heap.size,0,none⟩) 0 0 [] A na ca xa N where
 bel:=h.bel.alloc h.bel.size _
 v:=Own.lit W #[] 0 h.bel.size (by omega) rfl
 a:=h.a.alloc _
 dj:=fun g e e'=>by have e:W.heap.size=g:=Yv e;have:=(h.a.lt _ e').2;omega
 nw:=fun g e=>by
  obtain ⟨h1,h2,h3,h4⟩:=h.nw g e;exact ⟨h1.alloc _,h2,fun e'=>by have e':W.heap.size=g:=Yv e';have:=h1.lt;omega,h4⟩
theorem CpS.newA (h:CpS w1 W V nv cv xv none 0 0 [] N):CpS w1 (W.alloc (.cells #[] 119)) V nv cv xv (some ⟨W.heap.size,0,none⟩) 0 0 [] N where
 bel:=h.bel.alloc h.bel.size _
 v:=h.v.alloc _
 a:=Own.lit W #[] 0 h.bel.size (by omega) rfl
 dj:=fun g e e'=>by have e':W.heap.size=g:=Yv e';have:=(h.v.lt _ e).2;omega
 nw:=fun g e=>by
  obtain ⟨h1,h2,h3,h4⟩:=h.nw g e;exact ⟨h1.alloc _,h2,h3,fun e'=>by have e':W.heap.size=g:=Yv e';have:=h1.lt;omega⟩
theorem CpS.newN (h:CpS w1 W V nv cv xv A na ca xa none):CpS w1 (W.alloc (.cells #[.slice none 0 0,.slice none 0 0,.slice none 0 0] 26)) V nv cv xv A na ca xa (some W.heap.size) where
 bel:=h.bel.alloc h.bel.size _
 v:=h.v.alloc _
 a:=h.a.alloc _
 dj:=h.dj
 nw:=fun g e=>by
  cases e
  exact ⟨Blk.new _ _ _,h.bel.size,fun e'=>by have:=(h.v.lt _ e').2;omega,fun e'=>by have:=(h.a.lt _ e').2;omega⟩
theorem CpS.growV (h:CpS w1 W V nv cv xv A na ca xa N)(ho:Own w' w1.heap.size 124 3 V' nv' cv' xv') (hg:W.grownBy w' (Qac V)) (hat:Qac V'=Qac V∨Qac V'=some W.heap.size):CpS w1 w' V' nv' cv' xv' A na ca xa N where
 bel:=Zo h.bel hg h.v h.bel.size
 v:=ho
 a:=h.a.far hg (by
  cases e:Qac A with
  | none=>exact .inl rfl
  | some g=>exact .inr (fun e'=>h.dj g e'.symm e))
 dj:=fun g e e'=>by
  rcases hat with hat|hat
  · exact h.dj g (by rw [←hat];exact e) e'
  · rw [hat] at e;cases e;have:=(h.a.lt _ e').2;omega
 nw:=fun g e=>by
  obtain ⟨h1,h2,h3,h4⟩:=h.nw g e;refine ⟨h1.grown hg h3,h2,fun e'=>?_,h4⟩
  rcases hat with hat|hat
  · exact h3 (by rw [←hat];exact e')
  · rw [hat] at e';cases e';have:=h1.lt;omega
theorem CpS.growA (h:CpS w1 W V nv cv xv A na ca xa N)(ho:Own w' w1.heap.size 119 3 A' na' ca' xa') (hg:W.grownBy w' (Qac A)) (hat:Qac A'=Qac A∨Qac A'=some W.heap.size):CpS w1 w' V nv cv xv A' na' ca' xa' N where
 bel:=Zo h.bel hg h.a h.bel.size
 v:=h.v.far hg (by
  cases e:Qac V with
  | none=>exact .inl rfl
  | some g=>exact .inr (fun e'=>h.dj g e e'.symm))
 a:=ho
 dj:=fun g e e'=>by
  rcases hat with hat|hat
  · exact h.dj g e (by rw [←hat];exact e')
  · rw [hat] at e';cases e';have:=(h.v.lt _ e).2;omega
 nw:=fun g e=>by
  obtain ⟨h1,h2,h3,h4⟩:=h.nw g e;refine ⟨h1.grown hg h4,h2,h3,fun e'=>?_⟩
  rcases hat with hat|hat
  · exact h4 (by rw [←hat];exact e')
  · rw [hat] at e';cases e';have:=h1.lt;omega
end
structure CyS (Wa W:World) (R:Option Addr) (nr cr:Nat) (xr:List Value) (T1:Option Addr) (yt:List Value):Prop where
 bel:Below Wa.heap.size Wa W
 r:Own W Wa.heap.size 2 1 R nr cr xr
 t1:yt=[]∨Rds W 3 T1 1 yt
section
variable {Wa W w':World} {R T1 R':Option Addr} {nr cr nr' cr':Nat} {xr xr' yt:List Value}
theorem CyS.start (w1:World):CyS w1 w1.drew none 0 0 [] none []:=⟨(Zr _ _).drew,Own.nil _ _ _ _,.inl rfl⟩
theorem CyS.newR (h:CyS Wa W none 0 0 [] none []):CyS Wa (W.alloc (.cells #[] 2)) (some ⟨W.heap.size,0,none⟩) 0 0 [] none []:=⟨h.bel.alloc h.bel.size _,Own.lit W #[] 0 h.bel.size (by omega) rfl,.inl rfl⟩
theorem CyS.growR (h:CyS Wa W R nr cr xr none []) (ho:Own w' Wa.heap.size 2 1 R' nr' cr' xr') (hg:W.grownBy w' (Qac R)):CyS Wa w' R' nr' cr' xr' none []:=⟨Zo h.bel hg h.r h.bel.size,ho,.inl rfl⟩
theorem CyS.newT (h:CyS Wa W R nr cr xr none []) (a b c:Value):CyS Wa (W.alloc (.cells #[a,b,c] 122)) R nr cr xr (some ⟨W.heap.size,0,none⟩) [a,b,c]:=⟨h.bel.alloc h.bel.size _,h.r.alloc _,.inr ((Blk.new W 122 #[a,b,c]).rds rfl)⟩
end
def CyG (Wa:World)(C3:Option Addr)(j e3 n':Nat)(t:Qcv)(v28 _v33 v36 v37 v38:Value)(w':World):Prop :=
 ∃ (A2:Option Addr) (c2 g:Nat),v28=.slice C3 j e3∧v36=.slice A2 n' c2∧v37=.agg #[.int .i64 t.ins,.int .i64 t.outs,.slice A2 n' c2]∧v38=.slice (some ⟨g,0,none⟩) 1 1∧CyS Wa w' A2 n' c2 (Qaf t.costs) (some ⟨g,0,none⟩) [.int .i64 t.ins,.int .i64 t.outs,.slice A2 n' c2]
theorem CyG.of {Wa W:World}{C3 A2:Option Addr}{j e3 n' c2 g:Nat}{t:Qcv}{a:Value} (h:CyS Wa W A2 n' c2 (Qaf t.costs) (some ⟨g,0,none⟩) [.int .i64 t.ins,.int .i64 t.outs,.slice A2 n' c2]) :
 CyG Wa C3 j e3 n' t (.slice C3 j e3) a (.slice A2 n' c2) (.agg #[.int .i64 t.ins,.int .i64 t.outs,.slice A2 n' c2]) (.slice (some ⟨g,0,none⟩) 1 1) W:=⟨A2,c2,g,rfl,rfl,rfl,rfl,h⟩
theorem Qqy {P:Program}{ops:Array Oper}{Q:Exit→Act→World→Prop}{md:Region.Mode}{S:World→Prop}{G:Value→Value→Value→Value→Value→World→Prop}{L listed:Array Bool}{f0 fuel:Nat}{a:Act}{w:World}(d1 d2 d3 d4 d5:Option Tmp)(hf:fuel=f0+5)
 (hA:∀ C:Act→World→Prop,Shut (∀ v1 v2 v3 v4 v5 w',G v1 v2 v3 v4 v5 w'→C (((((a.put d1 v1).put d2 v2).put d3 v3).put d4 v4).put d5 v5) w')→wpC P md ops Q S L C 5 listed a w)
 (hB:∀ v1 v2 v3 v4 v5 w',G v1 v2 v3 v4 v5 w'→wpAnyH P md ops Q S f0 L (((((a.put d1 v1).put d2 v2).put d3 v3).put d4 v4).put d5 v5) w'):wpAnyH P md ops Q S fuel listed a w:=by
 subst hf;exact Qnt (C:=fun a' w'=>wpAnyH P md ops Q S f0 L a' w') (fun _ _ h=>h) 5 listed a w (hA _ hB)
def CpG (w1:World)(n m:Nat)(N:Qak)(_v6 v9 _v10 v13 v14 v3:Value)(w':World):Prop :=
 ∃ (V A:Option Addr) (c1 c2 g:Nat),v9=.slice V n c1∧v13=.slice A m c2∧v14=.agg #[.slice V n c1,.slice A m c2,.slice none 0 0]∧v3=.pointer (some ⟨g,0,none⟩)∧CpS w1 w' V n c1 (Qap N.vs) A m c2 (Qap N.ar) (some g)
theorem CpG.of {w1 W:World}{n m c1 c2 g:Nat}{N:Qak}{V A:Option Addr}{a b:Value} (h:CpS w1 W V n c1 (Qap N.vs) A m c2 (Qap N.ar) (some g)) :
 CpG w1 n m N a (.slice V n c1) b (.slice A m c2) (.agg #[.slice V n c1,.slice A m c2,.slice none 0 0]) (.pointer (some ⟨g,0,none⟩)) W:=⟨V,A,c1,c2,g,rfl,rfl,rfl,rfl,h⟩
theorem Qwm {P:Program}{ops:Array Oper}{Q:Exit→Act→World→Prop}{md:Region.Mode}{S:World→Prop}{G:Value→Value→Value→Value→Value→Value→World→Prop}{L listed:Array Bool}{f0 fuel:Nat}{a:Act}{w:World}(d1 d2 d3 d4 d5 d6:Option Tmp)(hf:fuel=f0+6)
 (hA:∀ C:Act→World→Prop,Shut (∀ v1 v2 v3 v4 v5 v6 w',G v1 v2 v3 v4 v5 v6 w'→C ((((((a.put d1 v1).put d2 v2).put d3 v3).put d4 v4).put d5 v5).put d6 v6) w')→wpC P md ops Q S L C 6 listed a w)
 (hB:∀ v1 v2 v3 v4 v5 v6 w',G v1 v2 v3 v4 v5 v6 w'→wpAnyH P md ops Q S f0 L ((((((a.put d1 v1).put d2 v2).put d3 v3).put d4 v4).put d5 v5).put d6 v6) w'):wpAnyH P md ops Q S fuel listed a w:=by
 subst hf;exact Qnt (C:=fun a' w'=>wpAnyH P md ops Q S f0 L a' w') (fun _ _ h=>h) 6 listed a w (hA _ hB)
set_option maxHeartbeats 4000000 in
set_option maxRecDepth 20000 in
theorem Qlc (A B C:Option Addr)(n m k c d e:Nat)(N:Qak)(w:World)(h:Qbg w A B C n m k N)(hn:n≤1000000)(hm:m≤1000000)(hk:k≤1000000)(hc:∀ t∈N.ts,t.costs.length≤1000000) :
 Calls prog 92 #[.agg #[.slice A n c,.slice B m d,.slice C k e]] w fun r w'=>∃ A' B' C' c' d' e' K xs,r=.returned (.agg #[.slice A' n c',.slice B' m d',.slice C' k e'])∧w.heap.size≤K ∧
  Own w' w.heap.size 124 3 A' n c' (Qap N.vs)∧Own w' w.heap.size 119 3 B' m d' (Qap N.ar)∧YwR w' K C' k e' xs N.ts ∧
  (∀ g,Qac A'=some g→Qac B'≠some g)∧(∀ g,Qac A'=some g→g<K)∧(∀ g,Qac B'=some g→g<K)∧Below w.heap.size w w':=by
 have HV0:=Zh h.1;have HA0:=Zh h.2.1;have HY:=Zh h.2.2;have HC:=Zh hc;clear h hc
 go_enter func92,ntmps92
 go_wp2_with fail
 (refine Qai ?_;intro w1 hw1)
 have hb1:Below w.heap.size w w1:=by rw [hw1];exact Qag
 have hJ:Blk w1 w.heap.size 26 #[.slice A n c,.slice B m d,.slice C k e]:=by rw [hw1];exact Qay
 have hR:Blk w1 (w.heap.size+1) 26 #[.slice none 0 0,.slice none 0 0,.slice none 0 0]:=by rw [hw1];exact Qay
 have hz1:w1.heap.size=w.heap.size+2:=by rw [hw1];simp
 clear hw1;obtain ⟨j0,j1,j2⟩:=hJ.three;have HSX:=Zh (show ∀ X,Below w1.heap.size w1 X→X.cell? ⟨w.heap.size,0,none⟩=some (.slice A n c)∧X.cell? ⟨w.heap.size,1,none⟩=some (.slice B m d) from fun X hX=>⟨Zc hX (Zn _) j0,Zc hX (Zn _) j1⟩)
 have HV:=Zh (show ∀ X,Below w1.heap.size w1 X→Rds X 3 A n (Qap N.vs) from fun X hX=>((HV0.out.below hb1).below hX).rds)
 have HA:=Zh (show ∀ X,Below w1.heap.size w1 X→Rds X 3 B m (Qap N.ar) from fun X hX=>((HA0.out.below hb1).below hX).rds)
 clear j0 j1 j2
 go_wp2_with fail
 refine wp_region_held_drew (S:=fun X=>Below w1.heap.size w1 X) (by kernel_rfl) (Zr _ _).drew (fun _=>?_);refine tz 1 7 ?_;refine tz 2 8 ?_;refine tz 5 11 ?_;refine tz 6 12 ?_;have h0:=CpS.start w1;obtain ⟨W0,q⟩:∃ X,X=w1.drew:=⟨_,rfl⟩;rw [←q] at h0 ⊢;clear q;refine Qwm (G:=CpG w1 n m N) (L:=#[true,true,true,true,true,true,true,true,true,true,false]) (f0:=1) (some 6) (some 9) (some 10) (some 13) (some 14) (some 3) rfl (fun C0 hC=>?_) ?_
 · skip
   refine Qae (rs:=[0,4,9]) (by kernel_rfl) (by simp) ?_;refine Qaz.cons (o:=_) rfl (fun K hK=>?_) (Qaz.cons (o:=_) rfl (fun K hK=>?_) (Qaz.cons (o:=_) rfl (fun K hK=>?_) (Qaz.nil)))
   · go_simp
     refine hK.out _ _ h0.newV.bel (fun _=>?_);have h1:=h0.newV;obtain ⟨W1,q⟩:∃ X,X=W0.alloc (.cells #[] 124):=⟨_,rfl⟩;obtain ⟨g0,q2⟩:∃ g,g=W0.heap.size:=⟨_,rfl⟩;rw [←q] at h1 ⊢
     try rw [←q2] at h1 ⊢
     clear hK K q q2 h0
     try simp only [Act.put,Yi,Yj,Yk]
     refine Qae (rs:=[3,4,9]) (by kernel_rfl) (by simp) ?_;refine Qaz.cons (o:=_) rfl (fun K hK=>?_) (Qaz.cons (o:=_) rfl (fun K hK=>?_) (Qaz.cons (o:=_) rfl (fun K hK=>?_) (Qaz.nil)))
     · with_reducible refine Qaj (some 9) rfl rfl (.tmp 6) (.tmp 8) 22 rfl 124 _ 3 24 Qgb underlying22 rfl (by omega) rfl rfl h1.v (HV.out W1 h1.bel) (Qaq _) (by omega) (by omega) h1.bel.size ?_
       intro X c W2 ho hg hat;rw [Yz,List.nil_append] at ho;have h2:=h1.growV ho hg hat;refine hK.out _ _ h2.bel (fun _=>?_);clear hK K ho hg hat h1;simp only [Act.put,Yi,Yj,Yk,Yz];refine Qae (rs:=[4,9]) (by kernel_rfl) (by simp) ?_;refine Qaz.cons (o:=_) rfl (fun K hK=>?_) (Qaz.cons (o:=_) rfl (fun K hK=>?_) (Qaz.nil))
       · go_simp
         refine hK.out _ _ h2.newA.bel (fun _=>?_);have h3:=h2.newA;obtain ⟨W3,q⟩:∃ X,X=W2.alloc (.cells #[] 119):=⟨_,rfl⟩;obtain ⟨g4,q2⟩:∃ g,g=W2.heap.size:=⟨_,rfl⟩;rw [←q] at h3 ⊢
         try rw [←q2] at h3 ⊢
         clear hK K q q2 h2
         try simp only [Act.put,Yi,Yj,Yk]
         refine Qae (rs:=[7,9]) (by kernel_rfl) (by simp) ?_;refine Qaz.cons (o:=_) rfl (fun K hK=>?_) (Qaz.cons (o:=_) rfl (fun K hK=>?_) (Qaz.nil))
         · with_reducible refine Qaj (some 13) rfl rfl (.tmp 10) (.tmp 12) 23 rfl 119 _ 3 24 Qej underlying23 rfl (by omega) rfl rfl h3.a (HA.out W3 h3.bel) (Qaq _) (by omega) (by omega) h3.bel.size ?_
           exact Kag
         · go_simp
           refine hK.out _ _ h3.newN.bel (fun _=>?_);have h4:=h3.newN;obtain ⟨W4,q⟩:∃ X,X=W3.alloc (.cells #[.slice none 0 0,.slice none 0 0,.slice none 0 0] 26):=⟨_,rfl⟩;obtain ⟨g9,q2⟩:∃ g,g=W3.heap.size:=⟨_,rfl⟩;rw [←q] at h4 ⊢
           exact Kae
       · go_simp
         refine hK.out _ _ h2.newN.bel (fun _=>?_);have h3:=h2.newN;obtain ⟨W3,q⟩:∃ X,X=W2.alloc (.cells #[.slice none 0 0,.slice none 0 0,.slice none 0 0] 26):=⟨_,rfl⟩;obtain ⟨g9,q2⟩:∃ g,g=W2.heap.size:=⟨_,rfl⟩;rw [←q] at h3 ⊢
         try rw [←q2] at h3 ⊢
         clear hK K q q2 h2
         try simp only [Act.put,Yi,Yj,Yk]
         refine Qae (rs:=[4]) (by kernel_rfl) (by simp) ?_;refine Qaz.cons (o:=_) rfl (fun K hK=>?_) (Qaz.nil);go_simp;refine hK.out _ _ h3.newA.bel (fun _=>?_);have h4:=h3.newA;obtain ⟨W4,q⟩:∃ X,X=W3.alloc (.cells #[] 119):=⟨_,rfl⟩;obtain ⟨g4,q2⟩:∃ g,g=W3.heap.size:=⟨_,rfl⟩;rw [←q] at h4 ⊢
         exact Kae
     · go_simp
       refine hK.out _ _ h1.newA.bel (fun _=>?_);have h2:=h1.newA;obtain ⟨W2,q⟩:∃ X,X=W1.alloc (.cells #[] 119):=⟨_,rfl⟩;obtain ⟨g4,q2⟩:∃ g,g=W1.heap.size:=⟨_,rfl⟩;rw [←q] at h2 ⊢
       exact Kao
     · go_simp
       refine hK.out _ _ h1.newN.bel (fun _=>?_);have h2:=h1.newN;obtain ⟨W2,q⟩:∃ X,X=W1.alloc (.cells #[.slice none 0 0,.slice none 0 0,.slice none 0 0] 26):=⟨_,rfl⟩;obtain ⟨g9,q2⟩:∃ g,g=W1.heap.size:=⟨_,rfl⟩;rw [←q] at h2 ⊢
       exact Kap
   · go_simp
     refine hK.out _ _ h0.newA.bel (fun _=>?_);have h1:=h0.newA;obtain ⟨W1,q⟩:∃ X,X=W0.alloc (.cells #[] 119):=⟨_,rfl⟩;obtain ⟨g4,q2⟩:∃ g,g=W0.heap.size:=⟨_,rfl⟩;rw [←q] at h1 ⊢
     try rw [←q2] at h1 ⊢
     clear hK K q q2 h0
     try simp only [Act.put,Yi,Yj,Yk]
     refine Qae (rs:=[0,9]) (by kernel_rfl) (by simp) ?_;refine Qaz.cons (o:=_) rfl (fun K hK=>?_) (Qaz.cons (o:=_) rfl (fun K hK=>?_) (Qaz.nil))
     · go_simp
       refine hK.out _ _ h1.newV.bel (fun _=>?_);have h2:=h1.newV;obtain ⟨W2,q⟩:∃ X,X=W1.alloc (.cells #[] 124):=⟨_,rfl⟩;obtain ⟨g0,q2⟩:∃ g,g=W1.heap.size:=⟨_,rfl⟩;rw [←q] at h2 ⊢
       exact Kao
     · go_simp
       refine hK.out _ _ h1.newN.bel (fun _=>?_);have h2:=h1.newN;obtain ⟨W2,q⟩:∃ X,X=W1.alloc (.cells #[.slice none 0 0,.slice none 0 0,.slice none 0 0] 26):=⟨_,rfl⟩;obtain ⟨g9,q2⟩:∃ g,g=W1.heap.size:=⟨_,rfl⟩;rw [←q] at h2 ⊢
       exact Kbe
   · go_simp
     refine hK.out _ _ h0.newN.bel (fun _=>?_);have h1:=h0.newN;obtain ⟨W1,q⟩:∃ X,X=W0.alloc (.cells #[.slice none 0 0,.slice none 0 0,.slice none 0 0] 26):=⟨_,rfl⟩;obtain ⟨g9,q2⟩:∃ g,g=W0.heap.size:=⟨_,rfl⟩;rw [←q] at h1 ⊢
     try rw [←q2] at h1 ⊢
     clear hK K q q2 h0
     try simp only [Act.put,Yi,Yj,Yk]
     refine Qae (rs:=[0,4]) (by kernel_rfl) (by simp) ?_;refine Qaz.cons (o:=_) rfl (fun K hK=>?_) (Qaz.cons (o:=_) rfl (fun K hK=>?_) (Qaz.nil))
     · go_simp
       refine hK.out _ _ h1.newV.bel (fun _=>?_);have h2:=h1.newV;obtain ⟨W2,q⟩:∃ X,X=W1.alloc (.cells #[] 124):=⟨_,rfl⟩;obtain ⟨g0,q2⟩:∃ g,g=W1.heap.size:=⟨_,rfl⟩;rw [←q] at h2 ⊢
       exact Kap
     · go_simp
       refine hK.out _ _ h1.newA.bel (fun _=>?_);have h2:=h1.newA;obtain ⟨W2,q⟩:∃ X,X=W1.alloc (.cells #[] 119):=⟨_,rfl⟩;obtain ⟨g4,q2⟩:∃ g,g=W1.heap.size:=⟨_,rfl⟩;rw [←q] at h2 ⊢
       exact Kbe
 · rintro v6 v9 v10 v13 v14 v3 W ⟨V,A5,c1,c2,g,rfl,rfl,rfl,rfl,hS⟩
   simp only [Act.put,Yi,Yj,Yk];obtain ⟨hN9,hg9,hgV,hgA⟩:=hS.nw g rfl;obtain ⟨k0,k1,k2⟩:=hN9.three;have f0:=hN9.frozen 0;have f1:=hN9.frozen 1;have f2:=hN9.frozen 2;have hbW:Below w.heap.size w W:=Zb hb1 hS.bel;refine Zk 10 (fun K hK=>?_);go_simp;refine hK.out _ _ (((hS.bel.setCell hg9 _).setCell hg9 _).setCell hg9 _) (fun _=>?_);clear hK K;refine Zd ?_;obtain ⟨w3,hw3⟩:∃ X,X=((W.setCell ⟨g,0,none⟩ (.slice V n c1)).setCell ⟨g,1,none⟩ (.slice A5 m c2)).setCell ⟨g,2,none⟩ (.slice none 0 0):=⟨_,rfl⟩;rw [←hw3];have hb3:Below w1.heap.size w1 w3:=by rw [hw3];exact ((hS.bel.setCell hg9 _).setCell hg9 _).setCell hg9 _
   have hN3:Blk w3 g 26 #[.slice V n c1,.slice A5 m c2,.slice none 0 0]:=by rw [hw3];exact ((hN9.set_ 0 _).set_ 1 _).set_ 2 _
   have far3:∀ {e:TypeId} {s n' c':Nat} {X:Option Addr} {xs:List Value},Own W w1.heap.size e s X n' c' xs→Qac X≠some g→Own w3 w1.heap.size e s X n' c' xs:=fun h hne=>by
    rw [hw3];exact ((h.far (Qaa _ g 0 _) (.inr hne)).far (Qaa _ g 1 _) (.inr hne)).far (Qaa _ g 2 _) (.inr hne)
   have hV3:=far3 hS.v hgV;have hA3:=far3 hS.a hgA;have HDJ:=Zh hS.dj;clear hw3 far3 hS hN9 k0 k1 k2 f0 f1 f2 hbW;have hJ3:=hJ.below hb3 hJ.lt;have hR3:=hR.below hb3 hR.lt;have hB3:=Zb hb1 hb3;have hgl:=hN3.lt;have hzw:w.heap.size+2≤w3.heap.size:=by have:=hb3.size;omega
   have HVL:=Zh (fun b hb=>(hV3.lt b hb).2);have HAL:=Zh (fun b hb=>(hA3.lt b hb).2);have hgw:w.heap.size+2≤g:=by omega
   clear hb3 hJ hR hb1 HSX HV HA hg9
   go_wp2_with fail
   go_loopw [4] (fun q X=>w3.heap.size≤X.heap.size∧Below w.heap.size w X∧Blk X w.heap.size 26 #[.slice A n c,.slice B m d,.slice C k e]∧Blk X (w.heap.size+1) 26 #[.slice none 0 0,.slice none 0 0,.slice none 0 0]∧Own X w1.heap.size 124 3 V n c1 (Qap N.vs)∧Own X w1.heap.size 119 3 A5 m c2 (Qap N.ar)∧∃ (j:Nat) (C3:Option Addr) (e3:Nat) (xs:List Value),j≤k∧q=.int .i64 j∧Blk X g 26 #[.slice V n c1,.slice A5 m c2,.slice C3 j e3]∧YwR X w3.heap.size C3 j e3 xs (N.ts.take j)) (fun q _=>k-(intOf q).toNat)
   case atStart=>exact ⟨Zn _,hB3,hJ3,hR3,hV3,hA3,0,none,0,[],Nat.zero_le _,rfl,hN3,by simpa using YwR.nil _ _⟩
   case round =>
    clear hB3 hJ3 hR3 hV3 hA3 hN3;obtain ⟨hszr,hbl,hJ,hR,hVo,hAo,j,C3,e3,xs,hj,rfl,hK0,hown⟩:=hrel;obtain ⟨j0,j1,j2⟩:=hJ.three
    by_cases hlt:j<k
    · obtain ⟨sb,so,t,rfl,ht,cx,cy,A',n',c',cz,hr,hc1',hc2'⟩:=(HY.out.below hbl).at_ hlt
      have HNX:=Zh (show N.ts.take (j+1)=N.ts.take j ++[t] by
       rw [Yf (Zs ht).1,(Zs ht).2])
      have hn':n'≤1000000:=by have:=HC.out t (Zm ht);rw [hr.1] at this;exact this
      have HRT:=Zh (show ∀ X,Below wr.heap.size wr X→Rds X 1 A' n' (Qaf t.costs) from fun X hX=>(hr.below hX).rdsI)
      have i3:(0:Int)≤(j:Int):=by omega
      have i4:(j:Int)<(k:Int):=by omega
      clear ht hr j0 j1
      go_wp2_with fail
      obtain ⟨gt,hgt⟩:∃ x,x=wr.heap.size:=⟨_,rfl⟩;obtain ⟨Wa,hWa⟩:∃ x,x=wr.alloc (.cells #[.int .i64 t.ins,.int .i64 t.outs,.slice A' n' c'] 122):=⟨_,rfl⟩;rw [←hWa]
      try rw [←hgt]
      skip
      have hgl2:g<wr.heap.size:=by omega
      have hTa:Blk Wa gt 122 #[.int .i64 t.ins,.int .i64 t.outs,.slice A' n' c']:=by rw [hWa,hgt];exact Blk.new _ _ _
      have hba:Below wr.heap.size wr Wa:=by rw [hWa];exact Bel.alloc (Zr _ _)
      clear hWa cx cy cz j2;have hJa:=hJ.below hba hJ.lt;have hRa:=hR.below hba hR.lt;have hVa:=hVo.below hba;have hAa:=hAo.below hba;have hKa:=hK0.below hba hK0.lt;have hYa:=hown.below hba;have hbla:=Zb hbl hba;have hCgt:Qac C3≠some gt:=fun e=>by have:=(hown.1.lt gt e).2;omega
      have hsza:w3.heap.size≤Wa.heap.size:=by have:=hba.size;omega
      have HRA:=Zh (show ∀ X,Below Wa.heap.size Wa X→Rds X 1 A' n' (Qaf t.costs) from fun X hX=>HRT.out X (Zb hba hX))
      have hgtg:gt≠g:=by omega
      clear hJ hR hVo hAo hK0 hown hbl HRT hszr hgt;have hKc:=hKa.three.2.2;have HSX:=Zh (show ∀ X,Blk X gt 122 #[.int .i64 t.ins,.int .i64 t.outs,.slice A' n' c']→X.cell? ⟨gt,0,none⟩=some (.int .i64 t.ins)∧X.cell? ⟨gt,1,none⟩=some (.int .i64 t.outs)∧X.cell? ⟨gt,2,none⟩=some (.slice A' n' c') from fun X hX=>hX.three)
      refine wp_region_held_drew (S:=fun X=>Blk X gt 122 #[.int .i64 t.ins,.int .i64 t.outs,.slice A' n' c']) (by kernel_rfl) hTa.drew (fun _=>?_);refine tz 0 27 ?_;refine tz 2 29 ?_;refine tz 3 30 ?_;refine tz 4 31 ?_;refine tz 5 32 ?_;refine tz 7 34 ?_;refine tz 8 35 ?_;have u0:=CyS.start Wa;obtain ⟨U0,q⟩:∃ X,X=Wa.drew:=⟨_,rfl⟩;rw [←q] at u0 ⊢;clear q;refine Qqy (G:=CyG Wa C3 j e3 n' t) (L:=#[true,true,true,true,true,true,true,true,true,true,true,true,false,false,false]) (f0:=3) (some 28) (some 33) (some 36) (some 37) (some 38) rfl (fun C0 hC=>?_) ?_
      · skip
        refine Qae (rs:=[1,6]) (by kernel_rfl) (by simp) ?_;refine Qaz.cons (o:=_) rfl (fun K hK=>?_) (Qaz.cons (o:=_) rfl (fun K hK=>?_) (Qaz.nil))
        · have kk:=Zc u0.bel (Zn _) hKc
          go_simp;clear kk;refine hK.out _ _ (hTa.below u0.bel hTa.lt) (fun _=>?_);have u1:=u0;obtain ⟨U1,rfl⟩:∃ X,X=U0:=⟨_,rfl⟩;clear hK K u0
          try simp only [Act.put,Yi,Yj,Yk]
          refine Qae (rs:=[6]) (by kernel_rfl) (by simp) ?_;refine Qaz.cons (o:=_) rfl (fun K hK=>?_) (Qaz.nil);go_simp;have u2:=u1.newR;refine hK.out _ _ (hTa.below u2.bel hTa.lt) (fun _=>?_);obtain ⟨U2,q⟩:∃ X,X=U1.alloc (.cells #[] 2):=⟨_,rfl⟩;obtain ⟨g6,q2⟩:∃ g,g=U1.heap.size:=⟨_,rfl⟩;rw [←q] at u2 ⊢
          try rw [←q2] at u2 ⊢
          clear hK K q q2 u1
          exact Kat
        · go_simp
          have u1:=u0.newR;refine hK.out _ _ (hTa.below u1.bel hTa.lt) (fun _=>?_);obtain ⟨U1,q⟩:∃ X,X=U0.alloc (.cells #[] 2):=⟨_,rfl⟩;obtain ⟨g6,q2⟩:∃ g,g=U0.heap.size:=⟨_,rfl⟩;rw [←q] at u1 ⊢
          try rw [←q2] at u1 ⊢
          clear hK K q q2 u0
          try simp only [Act.put,Yi,Yj,Yk]
          refine Qae (rs:=[1,9]) (by kernel_rfl) (by simp) ?_;refine Qaz.cons (o:=_) rfl (fun K hK=>?_) (Qaz.cons (o:=_) rfl (fun K hK=>?_) (Qaz.nil))
          · have kk:=Zc u1.bel (Zn _) hKc
            go_simp;clear kk;refine hK.out _ _ (hTa.below u1.bel hTa.lt) (fun _=>?_);have u2:=u1;obtain ⟨U2,rfl⟩:∃ X,X=U1:=⟨_,rfl⟩;clear hK K u1
            exact Kat
          · with_reducible refine Qaj (some 36) rfl rfl (.tmp 33) (.tmp 35) 36 rfl 2 _ 1 8 Qhk underlying36 rfl (by omega) rfl rfl u1.r (HRA.out U1 u1.bel) (Qao _) (by omega) (by omega) u1.bel.size ?_
            intro R2 rc U2 ho hg _;rw [Yz,List.nil_append] at ho;have u2:=u1.growR ho hg;refine hK.out _ _ (hTa.below u2.bel hTa.lt) (fun _=>?_);clear hK K ho hg u1;simp only [Act.put,Yi,Yj,Yk,Yz];refine Qae (rs:=[1,10]) (by kernel_rfl) (by simp) ?_;refine Qaz.cons (o:=_) rfl (fun K hK=>?_) (Qaz.cons (o:=_) rfl (fun K hK=>?_) (Qaz.nil))
            · have kk:=Zc u2.bel (Zn _) hKc
              go_simp;clear kk;refine hK.out _ _ (hTa.below u2.bel hTa.lt) (fun _=>?_);have u3:=u2;obtain ⟨U3,rfl⟩:∃ X,X=U2:=⟨_,rfl⟩;clear hK K u2
              try simp only [Act.put,Yi,Yj,Yk]
              refine Qae (rs:=[10]) (by kernel_rfl) (by simp) ?_;refine Qaz.cons (o:=_) rfl (fun K hK=>?_) (Qaz.nil);go_simp;refine hK.out _ _ (hTa.below u3.bel hTa.lt) (fun _=>?_);have u4:=u3;obtain ⟨U4,rfl⟩:∃ X,X=U3:=⟨_,rfl⟩;clear hK K u3
              exact Kam
            · go_simp
              refine hK.out _ _ (hTa.below u2.bel hTa.lt) (fun _=>?_);have u3:=u2;obtain ⟨U3,rfl⟩:∃ X,X=U2:=⟨_,rfl⟩;clear hK K u2
              try simp only [Act.put,Yi,Yj,Yk]
              refine Qae (rs:=[1,11]) (by kernel_rfl) (by simp) ?_;refine Qaz.cons (o:=_) rfl (fun K hK=>?_) (Qaz.cons (o:=_) rfl (fun K hK=>?_) (Qaz.nil))
              · have kk:=Zc u3.bel (Zn _) hKc
                go_simp;clear kk;refine hK.out _ _ (hTa.below u3.bel hTa.lt) (fun _=>?_);have u4:=u3;obtain ⟨U4,rfl⟩:∃ X,X=U3:=⟨_,rfl⟩;clear hK K u3
                exact Kam
              · go_simp
                have u4:=u3.newT (.int .i64 t.ins) (.int .i64 t.outs) (.slice R2 n' rc);refine hK.out _ _ (hTa.below u4.bel hTa.lt) (fun _=>?_);obtain ⟨U4,q⟩:∃ X,X=U3.alloc (.cells #[.int .i64 t.ins,.int .i64 t.outs,.slice R2 n' rc] 122):=⟨_,rfl⟩;obtain ⟨g11,q2⟩:∃ g,g=U3.heap.size:=⟨_,rfl⟩;rw [←q] at u4 ⊢
                try rw [←q2] at u4 ⊢
                clear hK K q q2 u3
                try simp only [Act.put,Yi,Yj,Yk]
                refine Qae (rs:=[1]) (by kernel_rfl) (by simp) ?_;refine Qaz.cons (o:=_) rfl (fun K hK=>?_) (Qaz.nil);have kk:=Zc u4.bel (Zn _) hKc;go_simp;clear kk;refine hK.out _ _ (hTa.below u4.bel hTa.lt) (fun _=>?_);have u5:=u4;obtain ⟨U5,rfl⟩:∃ X,X=U4:=⟨_,rfl⟩;clear hK K u4
                try simp only [Act.put,Yi,Yj,Yk]
                exact ⟨by kernel_rfl,hC.out _ (.slice (some ⟨g6,0,none⟩) 0 0) _ _ _ _ (CyG.of u5)⟩
      · rintro v28 v33 v36 v37 v38 W9 ⟨A2,c2',g11,rfl,rfl,rfl,rfl,hS9⟩
        simp only [Act.put,Yi,Yj,Yk];have hb9:=hS9.bel;have hyW:=hYa.below hb9;have hVW:=hVa.below hb9;have hAW:=hAa.below hb9;have hJW:=hJa.below hb9 hJa.lt;have hRW:=hRa.below hb9 hRa.lt;have hKW:=hKa.below hb9 hKa.lt;have hTW:=hTa.below hb9 hTa.lt;have hblW:=Zb hbla hb9
        have hrdW:Rds W9 3 (some ⟨g11,0,none⟩) 1 [.int .i64 t.ins,.int .i64 t.outs,.slice A2 n' c2']:=by
         rcases hS9.t1 with h|h
         · cases h
         · exact h
        have hcW:=hS9.r.rds.rdI;have hcapW:=hS9.r.cap;have hcapM:=hS9.r.capMax
        have hclW:∀ b,Qac A2=some b→w3.heap.size≤b∧b<W9.heap.size∧Qac C3≠some b:=fun b hb=>by
         have h1:=hS9.r.lt b hb;refine ⟨by omega,h1.2,fun e=>?_⟩;have h2:=(hYa.1.lt b e).2;omega
        have hszW:w3.heap.size≤W9.heap.size:=by have:=hb9.size;omega
        have HYY:=Zh hyW;have hownY:=hyW.1
        have HONE:=Zh (show ∀ u∈[Value.int .i64 t.ins,.int .i64 t.outs,.slice A2 n' c2'],u.oneCell'=true from fun u hu=>by
         simp at hu
         rcases hu with rfl|rfl|rfl <;> rfl)
        clear hyW hS9 hb9 hYa hVa hAa hJa hRa hKa hTa hbla;refine Zk 12 (fun K hK=>?_);with_reducible refine Qaj (some 39) rfl rfl (.tmp 28) (.tmp 38) 24 rfl 122 _ 3 40 infoRT underlying24 rfl (by omega) rfl rfl hownY hrdW HONE.out (by omega) (by omega) hszW ?_
        intro Y' c' w' hown' hg hat;have hb6:Below w.heap.size w w':=Zo hblW hg (hownY.mono (by omega)) (by omega);have hJ':=hJW.grown hg (hownY.ne (by omega));have hR':=hRW.grown hg (hownY.ne (by omega));have hK':=hKW.grown hg (hownY.ne (by omega));have hT':=hTW.grown hg hCgt;have hV':=hVW.far hg (Own.apart HVL.out hownY);have hA':=hAW.far hg (Own.apart HAL.out hownY);have hsz':w3.heap.size≤w'.heap.size:=Yx hszW hg.size;have HYN:=Zh (HYY.out.push hown' hg hat hcW hclW hcapW hcapM);clear hownY hrdW hblW hJW hRW hKW hTW hg hVW hAW hclW hcW hown' hat HYY hcapW hcapM hCgt;refine hK.out _ _ hT' (fun _=>?_);clear hK K;simp only [Act.put,Yi,Yj,Yk];refine tz 13 40 ?_;obtain ⟨k3a,k3b,k3c⟩:=hK'.three;have kf':=hK'.frozen 2;refine Zk 14 (fun K hK=>?_);go_simp;refine hK.out _ _ (hT'.far hgtg _) (fun _=>?_);clear hK K;refine Zd ?_;have HK2:=Zh (hK'.set_ 2 (.slice Y' (j+1) c'));have HV2:=Zh (hV'.far (Qaa w' g 2 (.slice Y' (j+1) c')) (.inr hgV));have HA2:=Zh (hA'.far (Qaa w' g 2 (.slice Y' (j+1) c')) (.inr hgA));have HY2:=Zh (HYN.out.far (Qaa w' g 2 (.slice Y' (j+1) c')) (by omega));have hb7:Below w.heap.size w (w'.setCell ⟨g,2,none⟩ (.slice Y' (j+1) c')):=hb6.setCell (by simp only;omega) _;have hJ7:Blk (w'.setCell ⟨g,2,none⟩ (.slice Y' (j+1) c')) w.heap.size 26 #[.slice A n c,.slice B m d,.slice (some ⟨sb,so,none⟩) k e]:=hJ'.far (by simp only;omega) _;have hR7:=hR'.far (p:=⟨g,2,none⟩) (by simp only;omega) (.slice Y' (j+1) c');clear hV' hA' hK' k3a k3b k3c kf' hT' hJ' hR' hb6
        go_wp2_with fail
        go_roundw
        case rel=>exact ⟨(by simp [World.setCell];omega),hb7,hJ7,hR7,HV2.out,HA2.out,j+1,Y',c',_,by omega,by go_num,HK2.out,by rw [HNX.out];exact HY2.out⟩
        case measure=>simp [intOf];omega
    · obtain rfl:k=j:=by omega
      rw [Ye (by rw [HY.out.1];exact Zn _)] at hown;obtain ⟨q0,q1,q2⟩:=hK0.three;have f0:=hR.frozen 0;have f1:=hR.frozen 1;have f2:=hR.frozen 2;obtain ⟨r0,r1,r2⟩:=hR.three;have hz1':w.heap.size+2≤w1.heap.size:=by omega
      have HV5:=Zh ((((hVo.far (Qaa wr (w.heap.size+1) 0 (.slice V n c1)) (.inr (hVo.ne (by omega)))).far (Qaa _ (w.heap.size+1) 1 (.slice A5 m c2)) (.inr (hVo.ne (by omega)))).far (Qaa _ (w.heap.size+1) 2 (.slice C3 k e3)) (.inr (hVo.ne (by omega)))).mono (show w.heap.size≤w1.heap.size by omega))
      have HA5:=Zh ((((hAo.far (Qaa wr (w.heap.size+1) 0 (.slice V n c1)) (.inr (hAo.ne (by omega)))).far (Qaa _ (w.heap.size+1) 1 (.slice A5 m c2)) (.inr (hAo.ne (by omega)))).far (Qaa _ (w.heap.size+1) 2 (.slice C3 k e3)) (.inr (hAo.ne (by omega)))).mono (show w.heap.size≤w1.heap.size by omega))
      have HY5:=Zh (((hown.far (Qaa wr (w.heap.size+1) 0 (.slice V n c1)) (by omega)).far (Qaa _ (w.heap.size+1) 1 (.slice A5 m c2)) (by omega)).far (Qaa _ (w.heap.size+1) 2 (.slice C3 k e3)) (by omega));have hb5:Below w.heap.size w (((wr.setCell ⟨w.heap.size+1,0,none⟩ (.slice V n c1)).setCell ⟨w.heap.size+1,1,none⟩ (.slice A5 m c2)).setCell ⟨w.heap.size+1,2,none⟩ (.slice C3 k e3)):=((hbl.setCell (by simp only;omega) _).setCell (by simp only;omega) _).setCell (by simp only;omega) _;clear hVo hAo hown j0 j1 hR hbl
      go_wp2_with fail
      refine bodyPost_ret (v:=.agg #[.slice V n c1,.slice A5 m c2,.slice C3 k e3]) (by simp [results,results92,go_sem,r0,r1,r2]) rfl ?_;exact ⟨V,A5,C3,c1,c2,e3,w3.heap.size,xs,rfl,by omega,HV5.out,HA5.out,HY5.out,HDJ.out,HVL.out,HAL.out,hb5⟩
end Go.Proofs.YtdheeddnkdhfeaaGreatDoor
