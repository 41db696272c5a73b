/- Parts of the proof: Gs, Og, Ki, Ko, Dn, En, BaP, BkP, Le1. -/
import Derived.Test.YtdheeddnkdhfeaaGreatDoorH7
import Derived.Test.YtdheeddnkdhfeaaGreatDoorShelf
import Derived.Test.YtdheeddnkdhfeaaGreatDoorShelf2
import Derived.Sort.OwnSortedInts
import Derived.Lib.RowBridge
namespace Go.Proofs.YtdheeddnkdhfeaaGreatDoor
open Go.RowKit Go.Proofs.Tryz
attribute [local go_sem ↓] Go.wp_at_zero Go.wp_at_succ
theorem Qdu {ar:List Tri}{l:List Int}{c:Nat}{x:Qan} (h:(Qaf ar l)[c]?=some x):x.1.Pairwise (·<·):=by
 have hc:c<(Qar l).toNat:=by rw [←Qaq ar l];exact (Zs h).1
 rw [Qco hc] at h;cases h;exact List.Pairwise.filter _ (Qjx _ _)
theorem Qev {ar:List Tri}{l:List Int}{c:Nat}{x:Qan} (h:(Qaf ar l)[c]?=some x):x.2.Pairwise (·<·):=by
 have hc:c<(Qar l).toNat:=by rw [←Qaq ar l];exact (Zs h).1
 rw [Qco hc] at h;cases h;exact List.Pairwise.filter _ (Qjx _ _)
theorem Qhk (o:Nat)(ar:List Tri) (ls:List (List Int)) (w:World) (h:Qgh w o ar ls):Calls prog 49 #[.pointer (some ⟨o,0,none⟩)] w fun e w'=>e=.returned (.int .i64 (ls.length:Int))∧w=w':=by
 obtain ⟨Q,F,T,G,S,L,m,cq,cf,ct,cg,cs,h⟩:=h;have h0:=h.n0;have HL:=Zh h.part.1;clear h;go_enter func49,ntmps49
 go_wp2;go_ret;exact ⟨Qcc (by rw [HL.out]),rfl⟩
theorem Qic (o:Nat)(ar:List Tri) (ls:List (List Int)) (w:World) (h:Qgh w o ar ls):Calls prog 48 #[.pointer (some ⟨o,0,none⟩)] w fun e w'=>e=.returned (.int .i64 ((Qbw (Qae ar ls):Nat):Int))∧w=w':=by
 obtain ⟨Q,F,T,G,S,L,m,cq,cf,ct,cg,cs,h⟩:=h;have h0:=h.n5;clear h;generalize Qbw (Qae ar ls)=z at *;go_enter func48,ntmps48
 go_wp2;exact Kat
theorem Qbu {ar:List Tri} {ls:List (List Int)} {i:Nat} {l:List Int} (h:ls[i]?=some l):(Qae ar ls)[i]?=some (Qaf ar l):=by unfold Qae;rw [Yt,h];rfl
theorem Qkq (o i M:Nat)(ar:List Tri) (ls:List (List Int)) (l:List Int) (w:World) (h:Qgh w o ar ls) (hl:ls[i]?=some l) (hL:ls.length≤1000000) (hM:(Qar l).toNat=M):Calls prog 50 #[.pointer (some ⟨o,0,none⟩),.int .i64 ((i:Int)+1)] w fun e w'=>e=.returned (.int .i64 (M:Int))∧w=w':=by
 obtain ⟨Q,F,T,G,S,L,m,cq,cf,ct,cg,cs,h⟩:=h;have h0:=h.n3;have hi:i<L:=by rw [←h.part.1];exact (Zs hl).1
 have hLL:L≤1000000:=by rw [←h.part.1];exact hL
 obtain ⟨row,gb,go_,A,n,c,hrow,rfl,hc,hr,_⟩:=h.gates.at_ hi;rw [Qbu hl] at hrow;cases hrow;have HN:=Zh (show n=M by rw [←hr.1,Qaq,hM]);clear hM;have i1:0≤(i:Int):=by omega
 have i2:(i:Int)<L:=by omega
 have i3:¬((i:Int)+1<1):=by omega
 have i4:¬((i:Int)+1 > L):=by omega
 have i5:(i:Int)+1-1=i:=by omega
 clear h hl hr hL;go_enter func50,ntmps50
 go_wp2;go_ret;exact ⟨Qcc (by rw [HN.out]),rfl⟩
theorem Qrw (o i k M:Nat)(ar:List Tri) (ls:List (List Int)) (l:List Int) (w:World) (h:Qgh w o ar ls) (hl:ls[i]?=some l) (hL:ls.length≤1000000) (hM:(Qar l).toNat=M) (hk:k<M):Calls prog 116 #[.pointer (some ⟨o,0,none⟩),.int .i64 ((i:Int)+1),.int .i64 k] w fun e w'=>e=.returned (.bool true)∧w=w':=by
 have HC:=Zh (Qkq o i M ar ls l w h hl hL hM);clear h hl hL hM;have i1:0≤(k:Int):=by omega
 have i2:(k:Int)<M:=by omega
 go_enter func116,ntmps116
 go_wp2_with fail
 with_reducible refine HC.out.mono ?_
 rintro e w' ⟨rfl,rfl⟩;go_wp2_with fail
 go_ret;exact ⟨Qbh (by first|(simp;done)|(simp;omega)),rfl⟩
set_option maxHeartbeats 1000000 in
theorem Qgm (o i k:Nat)(ar:List Tri) (ls:List (List Int)) (l:List Int) (x:Qan) (w:World) (h:Qgh w o ar ls) (hl:ls[i]?=some l) (hL:ls.length≤1000000) (hx:(Qaf ar l)[k]?=some x) (ha:ar.length≤1000000) :
 Calls prog 61 #[.pointer (some ⟨o,0,none⟩),.int .i64 ((i:Int)+1),.int .i64 k] w fun e w'=>∃ A1 n1 c1 A2 n2 c2,e=.returned (.agg #[.slice A1 n1 c1,.slice A2 n2 c2])∧Own w' w.heap.size 3 1 A1 n1 c1 (Qag x.1)∧Own w' w.heap.size 3 1 A2 n2 c2 (Qag x.2)∧Below w.heap.size w w':=by
 have hk:k<(Qar l).toNat:=by rw [←Qaq ar l];exact (Zs hx).1
 have HH:=Zh (show ∀ V,Below w.heap.size w V→Calls prog 116 #[.pointer (some ⟨o,0,none⟩),.int .i64 ((i:Int)+1),.int .i64 k] V fun e w'=>e=.returned (.bool true)∧V=w' from fun V hV=>Qrw o i k _ ar ls l V (h.below hV) hl hL rfl hk);obtain ⟨Q,F,T,G,S,L,m,cq,cf,ct,cg,cs,h⟩:=h;have h0:=h.n3;have hi:i<L:=by rw [←h.part.1];exact (Zs hl).1
 have hLL:L≤1000000:=by rw [←h.part.1];exact hL
 obtain ⟨row,gb,go_,A,n,c,hrow,rfl,hc,hr,_⟩:=h.gates.at_ hi;rw [Qbu hl] at hrow;cases hrow;have hn:n=(Qar l).toNat:=by rw [←hr.1,Qaq]
 obtain ⟨y,cb,co,A1,n1,c1,A2,n2,c2,hy,rfl,hc1,hr1,hc2,hr2,_⟩:=hr.at_ (c:=k) (by omega);rw [hx] at hy;cases hy;have hg:=Qbl hx;have HR1:=Zh hr1;have HR2:=Zh hr2;have hn1:n1≤1000000:=by rw [←hr1.1];omega
 have hn2:n2≤1000000:=by rw [←hr2.1];omega
 have h0a:=fun ob=>Zc (show Below w.heap.size w (w.alloc ob) from Qah) (Zn _) h0
 have hca:=fun ob=>Zc (show Below w.heap.size w (w.alloc ob) from Qah) (Zn _) hc
 have hc1a:=fun ob=>Zc (show Below w.heap.size w (w.alloc ob) from Qah) (Zn _) hc1
 have hc2a:=fun ob=>Zc (show Below w.heap.size w (w.alloc ob) from Qah) (Zn _) hc2
 have i1:0≤(i:Int):=by omega
 have i2:(i:Int)<L:=by omega
 have i5:(i:Int)+1-1=i:=by omega
 have i6:0≤(k:Int):=by omega
 have i7:(k:Int)<n:=by omega
 clear h hl hr hL hx hr1 hr2 hn hk;go_enter func61,ntmps61
 go_wp2_with fail
 with_reducible refine (HH.out _ Qah).mono ?_
 rintro e w' ⟨rfl,rfl⟩;go_wp2_with fail
 (refine Qaj ?_;intro w3 hw3);have hb3:Below w.heap.size w w3:=by rw [hw3];exact Qah
 have hZ:Blk w3 w.heap.size 135 #[.slice none 0 0,.slice none 0 0]:=by rw [hw3];exact Qbi
 have hX:Blk w3 (w.heap.size+1) 135 #[.slice A1 n1 c1,.slice A2 n2 c2]:=by rw [hw3];exact Qbi
 clear hw3 h0a hca hc1a hc2a;have HSX:=Zh (show ∀ V,Blk V (w.heap.size+1) 135 #[.slice A1 n1 c1,.slice A2 n2 c2]→V.cell? ⟨w.heap.size+1,0,none⟩=some (.slice A1 n1 c1)∧V.cell? ⟨w.heap.size+1,1,none⟩=some (.slice A2 n2 c2) from fun V hV=>⟨hV.two.1,hV.two.2.1⟩);refine wp_region_held_drew (S:=fun V=>Blk V (w.heap.size+1) 135 #[.slice A1 n1 c1,.slice A2 n2 c2]) (by kernel_rfl) hX.drew (fun _=>?_);refine tzb 0 25 ?_;refine tzb 3 28 ?_;refine Zk 2 (fun K hK=>?_);go_simp;with_reducible refine (Qkh A1 n1 c1 x.1 _ (HR1.out.below (show Below w.heap.size w w3.drew from Qah)) hn1).mono ?_
 rintro e w4 ⟨B1,d1,rfl,ho1,hb4⟩;have hb34:Below w3.heap.size w3 w4:=(Zr _ w3).drew.trans hb4;have hX4:=hX.below hb34 hX.lt;have hZ4:=hZ.below hb34 hZ.lt;have hb4':=Zb hb3 hb34;clear hb4;go_wp2_with fail
 refine hK.out _ _ hX4 (fun _=>?_);clear hK K;refine Zk 5 (fun K hK=>?_);go_simp;with_reducible refine (Qkh A2 n2 c2 x.2 w4 (HR2.out.below hb4') hn2).mono ?_
 rintro e w5 ⟨B2,d2,rfl,ho2,hb5⟩;have hX5:=hX4.below hb5 hX4.lt;have hZ5:=hZ4.below hb5 hZ4.lt;have hb5':=Zb hb4' hb5;have ho1':=ho1.below hb5;have hz3:=hb34.size;have hzX:=hX.lt;replace ho1':Own w5 w3.heap.size 3 1 B1 n1 d1 (Qag x.1):=ho1'
 clear ho1 hb5;go_wp2_with fail
 refine hK.out _ _ hX5 (fun _=>?_);clear hK K;refine tz 6 31 ?_;obtain ⟨z0,z1,zf0,zf1⟩:=hZ5.two;refine Zk 7 (fun K hK=>?_);go_simp;refine hK.out _ _ ((hX5.far_ (by omega) _).far_ (by omega) _) (fun _=>?_);clear hK K;refine Zd ?_;have HF1:=Zh (((ho1'.far (Qad w5 w.heap.size 0 (.slice B1 n1 d1)) (.inr (ho1'.ne (by omega)))).far (Qad _ w.heap.size 1 (.slice B2 n2 d2)) (.inr (ho1'.ne (by omega)))).mono (show w.heap.size≤w3.heap.size by omega));have HF2:=Zh (((ho2.far (Qad w5 w.heap.size 0 (.slice B1 n1 d1)) (.inr (ho2.ne (by omega)))).far (Qad _ w.heap.size 1 (.slice B2 n2 d2)) (.inr (ho2.ne (by omega)))).mono (show w.heap.size≤w4.heap.size by omega));clear ho1' ho2;go_wp2_with fail
 refine bodyPost_ret (v:=.agg #[.slice B1 n1 d1,.slice B2 n2 d2]) (by simp [results,results61,go_sem,z0,z1]) rfl ?_;exact ⟨B1,n1,d1,B2,n2,d2,rfl,HF1.out,HF2.out,Qah⟩
theorem oGate_ok (o i k:Nat)(ar:List Tri) (ls:List (List Int)) (l:List Int) (x:Qan) (w:World) (h:Qgh w o ar ls) (hl:ls[i]?=some l) (hL:ls.length≤1000000) (hx:(Qaf ar l)[k]?=some x) (ha:ar.length≤1000000) :
 Calls prog 61 #[.pointer (some ⟨o,0,none⟩),.int .i64 ((i:Int)+1),.int .i64 k] w fun e w'=>∃ A1 n1 c1 A2 n2 c2,e=.returned (.agg #[.slice A1 n1 c1,.slice A2 n2 c2])∧RdI w' A1 n1 x.1∧RdI w' A2 n2 x.2∧Below w.heap.size w w':=by refine (Qgm o i k ar ls l x w h hl hL hx ha).mono ?_;rintro e w' ⟨A1,n1,c1,A2,n2,c2,rfl,h1,h2,h3⟩;exact ⟨A1,n1,c1,A2,n2,c2,rfl,h1.rds.rdI,h2.rds.rdI,h3⟩
theorem count_lt {l:List Int} (h:l.Pairwise (·<·)) {k:Nat} {v:Int} (hk:l[k]?=some v):l.countP (·<v)=k:=by
 induction l generalizing k with
 | nil=>simp at hk
 | cons x t ih =>
  rw [List.pairwise_cons] at h
  cases k with
  | zero =>simp at hk;subst hk;rw [List.countP_eq_zero];intro y hy;(rcases List.mem_cons.1 hy with rfl|hy);{simp};{have:=h.1 y hy;simp;omega}
  | succ k =>simp at hk;have hx:=h.1 v (Zm hk);rw [List.countP_cons,ih h.2 hk];simp [hx]
theorem Qef {l:List Int} (h:l.Pairwise (·<·)) {k:Nat} {v:Int} (hk:l[k]?=some v):plI l v=k:=by refine Qnt hk (fun j x hj hx e=>?_);subst e;rw [List.pairwise_iff_getElem] at h;have h1:=(Zs hx);have h2:=(Zs hk);have:=h j k h1.1 h2.1 hj;rw [h1.2,h2.2] at this;omega
set_option maxHeartbeats 400000 in
theorem Qdt (A:Option Addr)(n c:Nat)(l:List Int)(v:Int)(w:World)(h:RdI w A n l) (hs:l.Pairwise (·<·)) (hn:n≤1000000) :
 Calls prog 63 #[.slice A n c,.int .i64 v] w fun e w'=>e=.returned (.int .i64 (plI l v))∧Below w.heap.size w w':=by
 have hb:∃ (p:Nat) (t:Bool),Calls prog 118 #[.slice A n c,.int .i64 v] w (fun e w'=>e=.returned (.tuple #[.int .i64 (p:Int),.bool t])∧Below w.heap.size w w')∧plI l v=if t then (p:Int) else -1:=by
  cases n with
  | zero =>have hl:l=[]:=List.eq_nil_of_length_eq_zero h.1;subst hl;refine ⟨0,false,?_,by simp [Qcr]⟩;refine Calls.mono (show Calls prog 118 _ _ _ from Any.slices_BinarySearch_int_empty searchL A c v w) ?_;rintro e w' ⟨rfl,rfl⟩;exact ⟨rfl,Zr _ _⟩
  | succ n =>
   obtain ⟨b,o,x,rfl,hx,hc⟩:=h.at_ (i:=0) (by omega)
   have hcon:=Any.slices_BinarySearch_int searchL b o (n+1) c l v w (by rw [h.1];exact Zn _) (by omega) (fun j hj=>by
    obtain ⟨b',o',y,e,hy,hc'⟩:=h.at_ (i:=j) (by rw [←h.1];exact hj)
    cases e
    rw [Ya,hy];exact hc') (by rw [Ye (by rw [h.1];exact Zn _)];exact hs.imp (fun h=>by omega))
   rw [Ye (by rw [h.1];exact Zn _)] at hcon;refine ⟨l.countP (·<v),l.contains v,?_,?_⟩;{refine Calls.mono (show Calls prog 118 _ _ _ from hcon) ?_;rintro e w' ⟨rfl,q,rfl⟩;exact ⟨rfl,Qay (Zr _ _) q⟩};{by_cases hm:v∈l;{obtain ⟨k,hk⟩:=Yr hm;rw [Qef hs hk,count_lt hs hk,if_pos (by simpa using hm)]};{rw [Qcr hm,if_neg (by simpa using hm)]}}
 obtain ⟨p,t,hcall,hp⟩:=hb;have HC:=Zh hcall;have HP:=Zh hp;clear hcall hp h hs;go_enter func63,ntmps63
 go_wp2_with fail
 with_reducible refine HC.out.mono ?_
 rintro e w' ⟨rfl,hb⟩;cases t;{(go_wp2_with fail);go_ret;exact ⟨Qcc (by rw [HP.out];rfl),hb⟩};{(go_wp2_with fail);go_ret;exact ⟨Qcc (by rw [HP.out];rfl),hb⟩}
def srt (zs:List Int):List Int:=zs.mergeSort fun x y=>decide (x≤y)
theorem Qzd (zs:List Int):(srt zs).length=zs.length:=by unfold srt;simp
theorem srt_mem {zs:List Int}{x:Int}:x∈srt zs↔x∈zs:=by unfold srt;exact List.mem_mergeSort
theorem srt_le (zs:List Int):(srt zs).Pairwise (·≤·):=by have:=List.pairwise_mergeSort (le:=fun x y:Int=>decide (x≤y)) (fun a b c h1 h2=>by simp at *;omega) (fun a b=>by simp;omega) zs;exact this.imp (fun h=>by simpa using h)
theorem Own.sorted {w:World}{B g n c:Nat}{zs:List Int} (h:Own w B 3 1 (some ⟨g,0,none⟩) n c (Qag zs)):zs.length=n∧g<w.heap.size∧B≤g∧Go.Sort.Holds (Value.int .i64) w g 0 zs.toArray∧n≤c∧c≤9223372036854775807 ∧
 ∀ (ts:List Int) (q:Nat) (os:Array Obj),ts.length=n→Own (Go.Sort.grow (Go.Sort.putRow (Value.int .i64) (Go.Sort.ahead w q) g 0 ts.toArray) os) B 3 1 (some ⟨g,0,none⟩) n c (Qag ts):=by
 have hl:zs.length=n:=by have:=h.1;simpa [Qag] using this
 rcases h.2 with ⟨h',_⟩|⟨g',cap,cur,h1,h2,h3,h4,h5,h6,h7⟩
 {cases h'};{cases h1;(have h7':cur.toList.take zs.length=zs.map (Value.int .i64):=by rw [hl];simpa [Qag] using h7);refine ⟨hl,(Array.getElem?_eq_some_iff.1 h3).1,h2,holds_of_blockI h3 h7',h4,(by unfold maxLen at h5;exact h5),fun ts q os ht=>?_⟩;have:=ownsRow_sortedI (os:=os) (n:=q) (ss:=zs) (ts:=ts) (by rw [ht,hl]) h2 h3 (by rw [hl];exact h4) h5 h6;rw [hl] at this;exact this}
theorem sort_own (g n c B:Nat)(zs:List Int)(w:World) (h:Own w B 3 1 (some ⟨g,0,none⟩) n c (Qag zs)) (hn:n≤1000000000) :
 Calls prog 196 #[.slice (some ⟨g,0,none⟩) n c] w fun e w'=>e=.returned (.tuple #[])∧Own w' B 3 1 (some ⟨g,0,none⟩) n c (Qag (srt zs))∧w.grownBy w' (some g):=by obtain ⟨hl,hg,hB,hH,h1,h2,h3⟩:=h.sorted;have hcon:=Any.slices_Sort_int sortIL g 0 c zs w hH hg (by omega);rw [hl] at hcon;refine Calls.mono (show Calls prog 196 _ _ _ from hcon) ?_;rintro e w' ⟨rfl,q,os,rfl⟩;exact ⟨rfl,h3 (srt zs) q os (by rw [Qzd,hl]),grownBy_sortedI _⟩
theorem Qqv (g n c B:Nat)(zs:List Int)(w:World) (h:Own w B 3 1 (some ⟨g,0,none⟩) n c (Qag zs)) :
 Calls prog 197 #[.slice (some ⟨g,0,none⟩) n c] w fun e w'=>e=.returned (.slice (some ⟨g,0,none⟩) (Lib.compact zs).length c)∧RdI w' (some ⟨g,0,none⟩) (Lib.compact zs).length (Lib.compact zs)∧w.grownBy w' (some g):=by obtain ⟨hl,hg,hB,hH,h1,h2,h3⟩:=h.sorted;have hcon:=Any.slices_Compact_int compactL g 0 c zs w hH (by omega) (by omega);rw [hl] at hcon;have hcl:=Lib.compact_length_le zs;refine Calls.mono (show Calls prog 197 _ _ _ from hcon) ?_;rintro e w' ⟨rfl,q,rfl⟩;have ho:=h3 (Lib.compact zs ++List.replicate (n-(Lib.compact zs).length) 0) q #[] (by simp;omega);rw [Go.Sort.grow_empty] at ho;have hgr:=grownBy_sortedI (w:=w) (g:=g) (n:=q) (os:=#[]) (Lib.compact zs ++List.replicate (n-(Lib.compact zs).length) 0).toArray;rw [Go.Sort.grow_empty] at hgr;refine ⟨rfl,?_,hgr⟩;have:=ho.rds.rdI.take (m:=(Lib.compact zs).length) (by omega);rwa [List.take_append_of_le_length (Zn _),List.take_length] at this
theorem Qqu {zs:List Int}{x:Int}:x∈Lib.compact zs↔x∈zs:=by
 unfold Lib.compact Lib.compactUpTo;simp only [List.mem_map,List.mem_filter,List.mem_range];constructor;{rintro ⟨j,⟨hj,_⟩,rfl⟩;rw [getElem!_pos _ _ (by simpa using hj)];simp}
 · intro hx;obtain ⟨k,hk⟩:=Yr hx;have hkl:=(Zs hk).1
   have hex:∃ j,j<zs.length∧zs.toArray[j]! = x∧Lib.keeps zs.toArray j=true:=by
    (have hkx:zs.toArray[k]! = x:=by rw [getElem!_pos _ _ (by simpa using hkl)];simpa using (Zs hk).2);clear hk
    induction k with
    | zero=>exact ⟨0,hkl,hkx,by simp [Lib.keeps]⟩
    | succ k ih =>by_cases e:zs.toArray[k+1]! = zs.toArray[k]!;{exact ih (by omega) (by rw [←e];exact hkx)};{exact ⟨k+1,hkl,hkx,Lib.keeps_pos e⟩}
   obtain ⟨j,h1,h2,h3⟩:=hex;exact ⟨j,⟨h1,h3⟩,h2⟩
theorem Quo {zs:List Int} (h:zs.Pairwise (·≤·)):(Lib.compact zs).Pairwise (·<·):=by
 unfold Lib.compact Lib.compactUpTo;rw [List.pairwise_map]
 have hle:∀ i j:Nat,i≤j→j<zs.length→zs.toArray[i]!≤zs.toArray[j]!:=fun i j hij hj=>by
  rw [getElem!_pos _ _ (by simp;omega),getElem!_pos _ _ (by simpa using hj)];simp only [List.getElem_toArray];rcases Nat.lt_or_ge i j with h1|h1
  {exact List.pairwise_iff_getElem.1 h i j (by omega) hj h1};{(obtain rfl:i=j:=by omega);exact Int.le_refl _}
 have hr:((List.range zs.length).filter (Lib.keeps zs.toArray)).Pairwise (fun i j=>i<j∧j<zs.length∧Lib.keeps zs.toArray j=true):=by{rw [List.pairwise_filter];refine List.Pairwise.imp_of_mem ?_ (List.pairwise_lt_range (n:=zs.length));intro i j hi hj hij _ hk;exact ⟨hij,List.mem_range.1 hj,hk⟩};refine hr.imp ?_;rintro i j ⟨hij,hj,hk⟩;have h1:=hle i (j-1) (by omega) (by omega);have h2:=hle (j-1) j (by omega) hj;have h3:zs.toArray[j]!≠zs.toArray[j-1]!:=fun e=>by{rw [Lib.keeps_neg (by omega) e] at hk;cases hk};omega
def Qfd (row below:List Int)(cell:Int)(k:Nat):List Int:=((List.range k).filter (fun v:Nat=>row.getD v 0 == cell)).map (fun v=>below.getD v 0)
theorem Qpm {row below:List Int}{cell x y:Int}{k:Nat} (hx:row[k]?=some x) (hy:below[k]?=some y):Qfd row below cell (k+1)=Qfd row below cell k ++(if x=cell then [y] else []):=by
 unfold Qfd;have ex:row.getD k 0=x:=by rw [Ya,hx];rfl
 have ey:below.getD k 0=y:=by rw [Ya,hy];rfl
 rw [List.range_succ,List.filter_append,List.map_append];congr 1
 by_cases e:x=cell;{rw [if_pos e];simp only [List.filter_cons,List.filter_nil,ex,e,beq_self_eq_true,if_true,List.map_cons,List.map_nil,ey]};{rw [if_neg e];simp only [List.filter_cons,List.filter_nil,ex,beq_eq_false_iff_ne.2 e,Bool.false_eq_true,if_false,List.map_nil]}
theorem Qro (row below:List Int)(cell:Int)(k:Nat):(Qfd row below cell k).length≤k:=by unfold Qfd;rw [List.length_map];exact Yx (List.length_filter_le _ _) (by simp)
theorem Qkm {row below:List Int}{cell x:Int}{n:Nat}(h1:row.length=n)(h2:below.length=n):x∈Qfd row below cell n↔∃ v:Nat,row[v]?=some cell∧below[v]?=some x:=by unfold Qfd;simp only [List.mem_map,List.mem_filter,List.mem_range,beq_iff_eq,Ya];constructor;{rintro ⟨v,⟨hv,e1⟩,e2⟩;have a1:row[v]?=some row[v]:=Zg (by omega);have a2:below[v]?=some below[v]:=Zg (by omega);rw [a1] at e1;rw [a2] at e2;refine ⟨v,?_,?_⟩;{rw [a1];exact congrArg some e1};{rw [a2];exact congrArg some e2}};{rintro ⟨v,e1,e2⟩;refine ⟨v,⟨by have:=(Zs e1).1;omega,by rw [e1];rfl⟩,by rw [e2];rfl⟩}
def Qdd (row below:List Int)(cell:Int)(n:Nat):List Int:=Lib.compact (srt (Qfd row below cell n))
theorem Qxt (row below:List Int)(cell:Int)(n:Nat):(Qdd row below cell n).Pairwise (·<·):=Quo (srt_le _)
theorem Qip {row below:List Int}{cell x:Int}{n:Nat}(h1:row.length=n)(h2:below.length=n):x∈Qdd row below cell n↔∃ v:Nat,row[v]?=some cell∧below[v]?=some x:=by unfold Qdd;rw [Qqu,srt_mem,Qkm h1 h2]
theorem Quz (row below:List Int)(cell:Int)(n:Nat):(Qdd row below cell n).length≤n:=by unfold Qdd;refine Yx (Lib.compact_length_le _) ?_;rw [Qzd];exact Qro _ _ _ _
set_option maxHeartbeats 2000000 in
theorem kids_own (Q:Option Addr)(L cq j n:Nat)(cell:Int) (ls:List (List Int)) (row below:List Int) (w:World) (h:RdT w Q L ls) (hr:ls[j+1]?=some row) (hb:ls[j]?=some below) (hL:L≤1000000) (h1:row.length=n) (h2:below.length=n) (hn:n≤1000000) (hne:cell∈row) :
 Calls prog 187 #[.agg #[.slice Q L cq],.int .i64 ((j:Int)+1+1),.int .i64 cell] w fun e w'=>∃ A c,e=.returned (.slice A (Qdd row below cell n).length c)∧RdI w' A (Qdd row below cell n).length (Qdd row below cell n)∧(∀ b,Qab A=some b→w.heap.size≤b)∧Below w.heap.size w w':=by
 have HN1:=Zh (show ∀ V,Below w.heap.size w V→Calls prog 193 #[.agg #[.slice Q L cq],.int .i64 ((j:Int)+1)] V fun e w'=>∃ A n c,e=.returned (.slice A n c)∧RdI V A n below∧n≤c∧c≤9223372036854775807∧Below V.heap.size V w' from fun V hV=>Qiq Q L cq j ls below V (h.below hV) hb hL)
 have HN2:=Zh (show ∀ V,Below w.heap.size w V→Calls prog 193 #[.agg #[.slice Q L cq],.int .i64 ((j:Int)+1+1)] V fun e w'=>∃ A n c,e=.returned (.slice A n c)∧RdI V A n row∧n≤c∧c≤9223372036854775807∧Below V.heap.size V w' from fun V hV=>by
  have:=Qiq Q L cq (j+1) ls row V (h.below hV) hr hL
  simpa using this)
 have HL1:=Zh h1;have HL2:=Zh h2;have HNE:=Zh hne;have hjL:j+1<L:=by rw [←h.1];exact (Zs hr).1
 clear h hr hb h1 h2 hne;have i1:¬((j:Int)+1+1<2):=by omega
 have i2:(j:Int)+1+1-1=j+1:=by omega
 go_enter func187,ntmps187
 go_wp2_with fail
 (refine Qac ?_;intro w1 hw1);have hb1:Below w.heap.size w w1:=by rw [hw1];exact Qah
 have hQ:Blk w1 w.heap.size 132 #[.slice Q L cq]:=by rw [hw1];exact Qbi
 clear hw1;with_reducible refine (HN1.out w1 hb1).mono ?_
 rintro e w2 ⟨Ab,n1,cb,rfl,hrb,_,_,hb2⟩;obtain rfl:n=n1:=by rw [←hrb.1];exact HL2.out.symm
 have hbw2:=Zb hb1 hb2;have HRB:=Zh (hrb.below hb2);have y0:=(hQ.below hb2 hQ.lt).cell 0;simp only [Yo,Yn] at y0;clear hrb hb2 hQ;go_wp2_with fail
 with_reducible refine (HN2.out w2 hbw2).mono ?_
 rintro e w3 ⟨Ar,n2,cr,rfl,hrr,_,_,hb3⟩;obtain rfl:n=n2:=by rw [←hrr.1];exact HL1.out.symm
 have hbw3:=Zb hbw2 hb3;have HRR:=Zh (hrr.below hb3);have HRB3:=Zh (HRB.out.below hb3);have hz0:=hbw3.size;clear hrr hb3 y0 HRB;go_wp2_with fail
 go_loopw [8,21] (fun x q W=>w3.heap.size≤W.heap.size∧Below w3.heap.size w3 W∧∃ (k:Nat) (X:Option Addr) (m cx:Nat),k≤n∧q=.int .i64 k∧x=.slice X m cx∧m≤k∧Own W w3.heap.size 3 1 X m cx (Qag (Qfd row below cell k))) (fun _ q _=>n-(intOf q).toNat)
 case atStart=>exact ⟨Zn _,Zr _ _,0,none,0,0,Nat.zero_le _,rfl,rfl,Zn _,Own.nil _ _ _ _⟩
 case round =>
  obtain ⟨hsz,hbl,k,X,m,cx,hk,rfl,rfl,hmk,hown⟩:=hrel;by_cases hlt:k<n
  {obtain ⟨rb,ro,x,rfl,hx,hcx⟩:=HRR.out.at_ hlt;(obtain ⟨bb,bo,y,rfl,hy,hcy⟩:=HRB3.out.at_ hlt;have hcx2:=Zc hbl (Zn _) hcx;have hcy2:=Zc hbl (Zn _) hcy;have HNX:=Zh (Qpm (cell:=cell) hx hy);have k1:0≤(k:Int):=by omega);(have k2:(k:Int)<n:=by omega);clear hx hy hcx hcy;by_cases hxc:x=cell;{(have e1:(x == cell)=true:=by simpa using hxc);have HXC:=Zh hxc;clear hxc;have hr4:Below wr.heap.size wr (wr.alloc (.cells #[.int .i64 y] 3)):=Qah;have hownA:=hown.below hr4;have hrA:Rds (wr.alloc (.cells #[.int .i64 y] 3)) 1 (some ⟨wr.heap.size,0,none⟩) 1 (Qag [y]):=(Blk.new wr 3 (Qcf [y])).rds rfl;have hblA:=Zb hbl hr4;(go_wp2_with (at_builtin;with_reducible refine Qal rfl (.tmp 35) (.tmp 40) 61 rfl 3 _ 1 8 Qbo underlying61 rfl (by omega) rfl rfl hownA hrA (Qao _) (by omega) (by omega) (by simp;omega) ?_));intro A' c' w' hown' hg _;have hbl5:Below w3.heap.size w3 w':=Zo hblA hg hownA (by simp;omega);have hsz5:=hbl5.size;have HO:=Zh hown';clear hown' hg hownA hrA hblA hr4 hown hbl;go_wp2;go_roundw;(case rel=>exact ⟨hsz5,hbl5,k+1,A',m+1,c',by omega,by go_num,rfl,by omega,by rw [HNX.out,if_pos HXC.out,Qbg];exact HO.out⟩);case measure=>simp [intOf];omega};{(have e1:(x == cell)=false:=by simpa using hxc);have HXC:=Zh hxc;clear hxc;(go_wp2_with fail);go_roundw;(case rel=>exact ⟨hsz,hbl,k+1,X,m,cx,by omega,by go_num,rfl,by omega,by rw [HNX.out,if_neg HXC.out];simpa using hown⟩);case measure=>simp [intOf];omega}};{(obtain rfl:n=k:=by omega);(have hm:(Qfd row below cell n).length=m:=by have:=hown.1;simpa [Qag] using this);have hm0:0<m:=by{obtain ⟨v,hv⟩:=Yr HNE.out;have hvn:=(Zs hv).1;rw [HL1.out] at hvn;obtain ⟨z,hz⟩:∃ z,below[v]?=some z:=⟨_,Zg (by rw [HL2.out];exact hvn)⟩;have hmem:=(Qkm HL1.out HL2.out).2 ⟨v,hv,hz⟩;rw [←hm];exact List.length_pos_of_mem hmem};obtain ⟨gk,cur,rfl,hgk,_⟩:=hown.block hm0;have HS:=Zh (sort_own gk m cx w3.heap.size _ wr hown (by omega));clear hown hm hm0 HNE;(go_wp2_with fail);(with_reducible refine HS.out.mono ?_);rintro e w5 ⟨rfl,hown5,hg5⟩;have hbl5:Below w3.heap.size w3 w5:=hbl.grown hg5 hsz (fun k hk=>by cases hk;exact hgk);have hz5:=hg5.size;have HC:=Zh (Qqv gk m cx w3.heap.size _ w5 hown5);clear hown5 hg5 HS;(go_wp2_with fail);(with_reducible refine HC.out.mono ?_);rintro e w6 ⟨rfl,hr6,hg6⟩;have hbl6:Below w3.heap.size w3 w6:=hbl5.grown hg6 (by omega) (fun k hk=>by cases hk;exact hgk);have HR6:=Zh hr6;clear hr6 hg6 HC;(go_wp2_with fail);go_ret;exact ⟨_,_,rfl,HR6.out,fun b hb=>by injection hb with hb;simp only at hb;omega,Zb hbw3 hbl6⟩}
theorem Qyq (o j n:Nat)(cell:Int)(ar:List Tri) (ls:List (List Int)) (row below:List Int) (w:World) (h:Qgh w o ar ls) (hr:ls[j+1]?=some row) (hb:ls[j]?=some below) (hL:ls.length≤1000000) (h1:row.length=n) (h2:below.length=n) (hn:n≤1000000) (hne:cell∈row) :
 Calls prog 157 #[.pointer (some ⟨o,0,none⟩),.int .i64 ((j:Int)+1+1),.int .i64 cell] w fun e w'=>∃ A c,e=.returned (.slice A (Qdd row below cell n).length c)∧RdI w' A (Qdd row below cell n).length (Qdd row below cell n)∧(∀ b,Qab A=some b→w.heap.size≤b)∧Below w.heap.size w w':=by
 obtain ⟨Q,F,T,G,S,L,m,cq,cf,ct,cg,cs,h⟩:=h;have h0:=h.n0;have HK:=Zh (kids_own Q L cq j n cell ls row below w h.part hr hb (by rw [←h.part.1];exact hL) h1 h2 hn hne);clear h hr hb hL h1 h2 hn hne;generalize Qdd row below cell n=ks at *;go_enter func157,ntmps157
 go_wp2_with fail
 with_reducible refine HK.out.mono ?_
 rintro e w' ⟨A,c,rfl,hA,hlt,hbl⟩;have HA:=Zh hA;clear hA;go_wp2_with fail
 go_ret;exact ⟨A,c,rfl,HA.out,hlt,hbl⟩
end Go.Proofs.YtdheeddnkdhfeaaGreatDoor
namespace Go.Proofs.YtdheeddnkdhfeaaGreatDoor
theorem Qkl {ar:List Tri}{l:List Int}{c:Nat}{x:Qan} (hx:(Qaf ar l)[c]?=some x) {y:Int}:y∈x.1↔y∈Qas ar l∧toC ar l y=(c:Int):=by
 have hc:c<(Qar l).toNat:=by rw [←Qaq ar l];exact (Zs hx).1
 rw [Qco hc] at hx;cases hx;simp only [List.mem_filter,beq_iff_eq]
theorem Qpo {ar:List Tri}{l:List Int}{c:Nat}{x:Qan} (hx:(Qaf ar l)[c]?=some x) {y:Int}:y∈x.2↔y∈Qas ar l∧frC ar l y=(c:Int):=by
 have hc:c<(Qar l).toNat:=by rw [←Qaq ar l];exact (Zs hx).1
 rw [Qco hc] at hx;cases hx;simp only [List.mem_filter,beq_iff_eq]
theorem Qde {ar:List Tri}{l:List Int}{y:Int}:y∈Qas ar l↔∃ (a:Nat) (t:Tri),y=(a:Int)∧ar[a]?=some t∧Qaa l t.1≠Qaa l t.2.1:=by unfold Qas Qii;rw [List.mem_map];constructor;{rintro ⟨p,hp,rfl⟩;obtain ⟨h1,h2⟩:=List.mem_filter.1 hp;refine ⟨p.2,p.1,rfl,(List.mem_zipIdx_iff_getElem?.1 h1),?_⟩;simpa [Qcn] using h2};{rintro ⟨a,t,rfl,h1,h2⟩;exact ⟨(t,a),List.mem_filter.2 ⟨List.mem_zipIdx_iff_getElem?.2 h1,by simpa [Qcn] using h2⟩,rfl⟩}
theorem Qdm {l:List Int}{v:Nat}(h:v<l.length):l[v]?=some (Qaa l (v:Int)):=by rw [Qba (Zg h),Zg h]
theorem Qil {ar:List Tri}{n:Nat}{l:List Int}(hl:Qgg n l){z:Int}(hz:z∈l):∃ q:Nat,z=(q:Int)∧∃ y,(Qaf ar l)[q]?=some y:=by have h0:=hl.lo z hz;have h1:=Qti hz;exact ⟨z.toNat,by omega,_,Qco (by omega)⟩
theorem Qfu {l lb:List Int}{n u v:Nat}(hn:Qdr lb l)(h1:l.length=n)(h2:lb.length=n)(hu:u<n)(hv:v<n) (h:Qaa l (u:Int)≠Qaa l (v:Int)):Qaa lb (u:Int)≠Qaa lb (v:Int):=by intro e;have a1:=Qdm (l:=l) (v:=u) (by omega);have a2:=Qdm (l:=l) (v:=v) (by omega);have b1:=Qdm (l:=lb) (v:=u) (by omega);have b2:=Qdm (l:=lb) (v:=v) (by omega);have c1:=hn u v _ _ _ _ b1 b2 a1 a2 (by omega);have c2:=hn v u _ _ _ _ b2 b1 a2 a1 (by omega);exact h (by omega)
theorem Quj {n c:Nat}{l:List Int}(hl:Qgg n l) (hc:c<(Qar l).toNat):(c:Int)∈l:=hl.all c (by omega)
end Go.Proofs.YtdheeddnkdhfeaaGreatDoor
namespace Go.Proofs.YtdheeddnkdhfeaaGreatDoor
open Go.RowKit Go.Proofs.Tryz
theorem Qjq {l:List Int}{c:Int}{v:Int}(h:v.toNat<l.length):(Qbv l c).getD v.toNat false=true↔Qaa l v=c:=by unfold Qbv Qaa;rw [Ya,Ya,Yt,Zg h];simp
theorem Qca {N:Qam}(hok:Qap N){l:List Int}(hl:l.length=N.vs.length){c:Int}{a b:Nat}{d:Int}:StA N (Qbv l c) a b d ↔
 ∃ x y,N.ar[a]?=some x∧N.ar[b]?=some y∧x.2.1=y.1∧Qai N a b≠1152921504606846976∧y.2.2≠1152921504606846976∧Qaa l y.1=c∧Qaa l y.2.1=c∧d=Qai N a b+y.2.2:=by constructor;{rintro ⟨y,hy,h1,h2,h3,h4,h5⟩;obtain ⟨x,y',hx,hy',e⟩:=Qbm h1;rw [hy] at hy';cases hy';have ho:=hok.arcs y (Zm hy);have f0:=ho.f0;have f1:=ho.f1;have g0:=ho.g0;have g1:=ho.g1;exact ⟨x,y,hx,hy,e,h1,h2,(Qjq (by omega)).1 h3,(Qjq (by omega)).1 h4,h5⟩};{rintro ⟨x,y,hx,hy,e,h1,h2,h3,h4,h5⟩;have ho:=hok.arcs y (Zm hy);have f0:=ho.f0;have f1:=ho.f1;have g0:=ho.g0;have g1:=ho.g1;exact ⟨y,hy,h1,h2,(Qjq (by omega)).2 h3,(Qjq (by omega)).2 h4,h5⟩}
def toV (N:Qam)(a:Nat):Int:=(N.ar.getD a (0,0,0)).2.1
def frV (N:Qam)(a:Nat):Int:=(N.ar.getD a (0,0,0)).1
def wV (N:Qam)(a:Nat):Int:=(N.ar.getD a (0,0,0)).2.2
theorem Qby {N:Qam}{a:Nat}{x:Tri} (h:N.ar[a]?=some x):toV N a=x.2.1∧frV N a=x.1∧wV N a=x.2.2:=by unfold toV frV wV;rw [Ya,h];exact ⟨rfl,rfl,rfl⟩
theorem Qcw {N:Qam}{l:List Int}{c:Nat}{x:Qan} (hx:(Qaf N.ar l)[c]?=some x) {a:Nat}:(a:Int)∈x.1↔∃ y,N.ar[a]?=some y∧Qaa l y.1≠c∧Qaa l y.2.1=c:=by rw [Qkl hx,Qde];constructor;{rintro ⟨⟨a',t,e,h1,h2⟩,h3⟩;(have:a'=a:=by omega);subst this;rw [Qof h1] at h3;exact ⟨t,h1,by rw [←h3];exact h2,h3⟩};{rintro ⟨t,h1,h2,h3⟩;exact ⟨⟨a,t,rfl,h1,by rw [h3];exact h2⟩,by rw [Qof h1];exact h3⟩}
theorem Qbr {N:Qam}{l:List Int}{c:Nat}{x:Qan} (hx:(Qaf N.ar l)[c]?=some x) {a:Nat}:(a:Int)∈x.2↔∃ y,N.ar[a]?=some y∧Qaa l y.1=c∧Qaa l y.2.1≠c:=by rw [Qpo hx,Qde];constructor;{rintro ⟨⟨a',t,e,h1,h2⟩,h3⟩;(have:a'=a:=by omega);subst this;rw [Qnj h1] at h3;exact ⟨t,h1,h3,by rw [←h3];exact fun e=>h2 e.symm⟩};{rintro ⟨t,h1,h2,h3⟩;exact ⟨⟨a,t,rfl,h1,by rw [h2];exact fun e=>h3 e.symm⟩,by rw [Qnj h1];exact h2⟩}
/-! By arcs: each place an arc. -/
structure Qqm (N:Qam) (l:List Int) (c:Nat) (x:Qan) (arcs:List Nat) (L:Nat→List Stp):Prop where
 at_:∀ a∈arcs,∃ y,N.ar[a]?=some y∧Qaa l y.2.1=c
 snd:∀ p a,arcs[p]?=some a→∀ s∈L p,∃ b,Qai N a b≠1152921504606846976∧((∃ k:Nat,x.2[k]?=some (b:Int)∧s.2.1=(k:Int)∧s.2.2=Qai N a b)∨((b:Int) ∉ x.2∧wV N b≠1152921504606846976∧s.2.1<0∧arcs[s.1]?=some b∧s.2.2=Qai N a b+wV N b))
 outC:∀ p a b (k:Nat),arcs[p]?=some a→Qai N a b≠1152921504606846976→x.2[k]?=some (b:Int)→∃ s∈L p,s.2.1=(k:Int)∧s.2.2=Qai N a b
 toC:∀ p a b,arcs[p]?=some a→Qai N a b≠1152921504606846976→(b:Int) ∉ x.2→wV N b≠1152921504606846976→∃ s∈L p,s.2.1<0∧arcs[s.1]?=some b∧s.2.2=Qai N a b+wV N b
section
variable {N:Qam} {l:List Int} {c:Nat} {x:Qan} {arcs:List Nat} {L:Nat→List Stp}
theorem Qqm.fwd (h:Qqm N l c x arcs L)(hok:Qap N)(hl:l.length=N.vs.length) (hx:(Qaf N.ar l)[c]?=some x) {i s:Nat} (hi:arcs[i]?=some s) {p:Nat} {d:Int} (hr:Rch (StF L) i p d) :
 ∃ a,arcs[p]?=some a∧Rch (StA N (Qbv l c)) s a d:=by
 induction hr with
 | start=>exact ⟨s,hi,.start⟩
 | @step p q d e _ h2 ih =>
  obtain ⟨a,ha,hr⟩:=ih;obtain ⟨t,ht,h3,rfl,rfl⟩:=h2;obtain ⟨b,h4,h5⟩:=h.snd p a ha t ht;rcases h5 with ⟨k,_,h6,_⟩|⟨h6,h7,_,h8,h9⟩
  {omega};{refine ⟨b,h8,hr.step ((Qca hok hl).2 ?_)⟩;obtain ⟨xa,y,hxa,hy,e⟩:=Qbm h4;rw [(Qby hy).2.2] at h7 h9;obtain ⟨xa',hxa',hc⟩:=h.at_ a (Zm ha);rw [hxa] at hxa';cases hxa';refine ⟨xa,y,hxa,hy,e,h4,h7,by rw [←e];exact hc,?_,h9⟩;apply Classical.byContradiction;intro hn;exact h6 ((Qbr hx).2 ⟨y,hy,by rw [←e];exact hc,hn⟩)}
theorem Qqm.bwd (h:Qqm N l c x arcs L)(hok:Qap N)(hl:l.length=N.vs.length) (hx:(Qaf N.ar l)[c]?=some x) {i s:Nat} (hi:arcs[i]?=some s) {a:Nat} {d:Int} (hr:Rch (StA N (Qbv l c)) s a d) :
 ∃ p,arcs[p]?=some a∧Rch (StF L) i p d:=by
 induction hr with
 | start=>exact ⟨i,hi,.start⟩
 | @step a b d e _ h2 ih =>
  obtain ⟨p,ha,hr⟩:=ih;obtain ⟨xa,y,hxa,hy,e,h4,h7,h8,h9,rfl⟩:=(Qca hok hl).1 h2;have hw:=(Qby hy).2.2
  obtain ⟨t,ht,h10,h11,h12⟩:=h.toC p a b ha h4 (fun hm=>by
   obtain ⟨y',hy',_,h13⟩:=(Qbr hx).1 hm;rw [hy] at hy'
   cases hy'
   exact h13 h9) (by rw [hw];exact h7)
  exact ⟨t.1,h11,hr.step ⟨t,ht,h10,rfl,by rw [h12,hw]⟩⟩
theorem Qqm.entry (h:Qqm N l c x arcs L)(hok:Qap N)(hl:l.length=N.vs.length) (hx:(Qaf N.ar l)[c]?=some x) {i s k t:Nat} (hi:arcs[i]?=some s) (hk:x.2[k]?=some (t:Int)) {v:Int} (hv:Lst (Qok (StF L) (OuF L) i k) v) :
 Qet N (Qbv l c) s t v:=by have hinj:∀ (b k':Nat),x.2[k']?=some (b:Int)→k'=k→b=t:=fun b k' h1 e=>by{subst e;rw [hk] at h1;have:=Yv h1;omega};refine hv.conv (fun d hd=>?_) (fun d hd=>?_);{obtain ⟨p,d1,d2,h1,⟨u,hu,h2,h3⟩,rfl⟩:=hd;obtain ⟨a,ha,hr⟩:=h.fwd hok hl hx hi h1;obtain ⟨b,h4,h5⟩:=h.snd p a ha u hu;(rcases h5 with ⟨k',h6,h7,h8⟩|⟨_,_,h6,_⟩);{have hb:=hinj b k' h6 (by omega);subst hb;exact ⟨_,⟨a,d1,_,hr,⟨h4,rfl⟩,rfl⟩,by omega⟩};{omega}};{obtain ⟨a,d1,d2,h1,⟨h2,h3⟩,rfl⟩:=hd;obtain ⟨p,ha,hr⟩:=h.bwd hok hl hx hi h1;obtain ⟨u,hu,h4,h5⟩:=h.outC p a t k ha h2 hk;exact ⟨_,⟨p,d1,_,hr,⟨u,hu,h4,rfl⟩,rfl⟩,by omega⟩}
theorem Qqm.bound (h:Qqm N l c x arcs L)(hok:Qap N)(hl:l.length=N.vs.length) (hx:(Qaf N.ar l)[c]?=some x) {i s:Nat} (hi:arcs[i]?=some s) (hnd:arcs.Nodup) (p:Nat) (d:Int) (hr:Rch (StF L) i p d):∃ e,Rch (StF L) i p e∧e≤MB:=by obtain ⟨a,ha,h1⟩:=h.fwd hok hl hx hi hr;obtain ⟨e,h2,h3⟩:=Qhm hok a d h1;obtain ⟨q,hq,h4⟩:=h.bwd hok hl hx hi h2;have:q=p:=(List.getElem?_inj (Zs hq).1 hnd).1 (hq.trans ha.symm);subst this;exact ⟨e,h4,h3⟩
end
/-! By kids: each place an arc that enters a kid. -/
def StC (N:Qam)(lb:List Int)(x:Qan):Qbf:=fun a m d=>∃ v,(∃ y z,N.ar[a]?=some y∧N.ar[m]?=some z∧Qaa lb y.1≠Qaa lb y.2.1∧Qaa lb z.1=Qaa lb y.2.1∧Qaa lb z.2.1≠Qaa lb y.2.1∧z.2.2≠1152921504606846976∧d=v+z.2.2 ∧
 Qet N (Qbv lb (Qaa lb y.2.1)) a m v)∧v≠1152921504606846976∧(m:Int) ∉ x.2
def OuC (N:Qam)(lb:List Int)(x:Qan):Qbf:=fun a m v=>(∃ y z,N.ar[a]?=some y∧N.ar[m]?=some z∧Qaa lb y.1≠Qaa lb y.2.1∧Qaa lb z.1=Qaa lb y.2.1∧Qaa lb z.2.1≠Qaa lb y.2.1 ∧
 Qet N (Qbv lb (Qaa lb y.2.1)) a m v)∧v≠1152921504606846976∧(m:Int)∈x.2
def StK (N:Qam)(l lb:List Int)(c:Nat):Qbf:=fun a b d=>StA N (Qbv l c) a b d∧Qaa lb (frV N b)=Qaa lb (toV N b)
section
variable {N:Qam} {l lb:List Int} {c:Nat} {x:Qan}
theorem Qxs (hok:Qap N)(hl:l.length=N.vs.length)(hb:lb.length=N.vs.length){a p:Nat}{y:Tri}{d:Int} (hy:N.ar[a]?=some y) (hr:Rch (StK N l lb c) a p d) :
 Rch (StA N (Qbv lb (Qaa lb y.2.1))) a p d∧∃ z,N.ar[p]?=some z∧Qaa lb z.2.1=Qaa lb y.2.1:=by
 induction hr with
 | start=>exact ⟨.start,y,hy,rfl⟩
 | @step p q d e _ h2 ih =>obtain ⟨ih,z,hz,hc⟩:=ih;obtain ⟨h3,h4⟩:=h2;obtain ⟨z',w,hz',hw,e1,h5,h6,h7,h8,rfl⟩:=(Qca hok hl).1 h3;rw [hz] at hz';cases hz';obtain ⟨t1,t2,t3⟩:=Qby hw;rw [t1,t2] at h4;refine ⟨ih.step ((Qca hok hb).2 ⟨z,w,hz,hw,e1,h5,h6,by rw [←e1];exact hc,?_,rfl⟩),w,hw,?_⟩;{rw [←h4,←e1];exact hc};{rw [←h4,←e1];exact hc}
theorem Qhx (hok:Qap N)(hl:l.length=N.vs.length)(hb:lb.length=N.vs.length)(hn:Qdr lb l){y z:Tri}(hy:y∈N.ar)(u v:Int)(hu:u=y.2.1)(hv:v=z.2.1∨v=z.1)(hz:z∈N.ar)(h:Qaa lb u=Qaa lb v):Qaa l u=Qaa l v:=by
 have o1:=hok.arcs y hy;have o2:=hok.arcs z hz;have a0:=o1.g0;have a1:=o1.g1;have b0:=o2.g0;have b1:=o2.g1;have c0:=o2.f0;have c1:=o2.f1;apply Classical.byContradiction;intro hne;have hu0:0≤u∧u<N.vs.length:=by subst hu;exact ⟨a0,a1⟩
 have hv0:0≤v∧v<N.vs.length:=by rcases hv with rfl|rfl <;> omega
 obtain ⟨u',rfl⟩:∃ u':Nat,u=(u':Int):=⟨u.toNat,by omega⟩;obtain ⟨v',rfl⟩:∃ v':Nat,v=(v':Int):=⟨v.toNat,by omega⟩;exact Qfu hn hl hb (by omega) (by omega) hne h
theorem Qrm (hok:Qap N)(hl:l.length=N.vs.length)(hb:lb.length=N.vs.length)(hn:Qdr lb l){a p:Nat}{y:Tri}{d:Int} (hy:N.ar[a]?=some y) (hc:Qaa l y.2.1=c) (hr:Rch (StA N (Qbv lb (Qaa lb y.2.1))) a p d) :
 Rch (StK N l lb c) a p d:=by
 induction hr with
 | start=>exact .start
 | @step p q d e _ h2 ih =>obtain ⟨z,w,hz,hw,e1,h5,h6,h7,h8,rfl⟩:=(Qca hok hb).1 h2;have m1:=Zm hy;have m2:=Zm hw;obtain ⟨t1,t2,t3⟩:=Qby hw;refine ih.step ⟨(Qca hok hl).2 ⟨z,w,hz,hw,e1,h5,h6,?_,?_,rfl⟩,by rw [t1,t2,h7,h8]⟩;{rw [←Qhx hok hl hb hn m1 y.2.1 w.1 rfl (.inr rfl) m2 h7.symm];exact hc};{rw [←Qhx hok hl hb hn m1 y.2.1 w.2.1 rfl (.inl rfl) m2 h8.symm];exact hc}
def Qci (N:Qam)(l lb:List Int)(c:Nat)(a:Nat):Prop:=∃ y,N.ar[a]?=some y∧Qaa lb y.1≠Qaa lb y.2.1∧Qaa l y.2.1=c
theorem Qyj (hok:Qap N)(hl:l.length=N.vs.length)(hb:lb.length=N.vs.length)(hn:Qdr lb l) (hx:(Qaf N.ar l)[c]?=some x)
 (hE:∀ a m y z,Qci N l lb c a→N.ar[a]?=some y→N.ar[m]?=some z→Qaa lb z.1=Qaa lb y.2.1→Qaa lb z.2.1≠Qaa lb y.2.1→∃ v,Qet N (Qbv lb (Qaa lb y.2.1)) a m v) {k:Nat} (hk:(k:Int)∈x.2) :
 Qiw (StA N (Qbv l c)) (fun a t d=>OuA N a t d∧t=k) (StK N l lb c) (fun a m v=>∃ y,N.ar[a]?=some y∧Qet N (Qbv lb (Qaa lb y.2.1)) a m v) (fun a m d=>StC N lb x a m d∧Qci N l lb c a∧Qci N l lb c m) (fun a t d=>OuC N lb x a t d∧Qci N l lb c a∧t=k) (Qci N l lb c) (wV N) (OuA N) where
 sub:=fun p q d h=>h.1
 split:=fun p q d h=>by
  obtain ⟨z,w,hz,hw,e1,h5,h6,h7,h8,rfl⟩:=(Qca hok hl).1 h;obtain ⟨t1,t2,t3⟩:=Qby hw
  by_cases hc:Qaa lb w.1=Qaa lb w.2.1
  · exact .inl ⟨h,by rw [t1,t2];exact hc⟩
  · have:=(Qdk (hok.arcs w (Zm hw)).w).resolve_left h6
    exact .inr ⟨⟨w,hw,hc,h8⟩,_,⟨h5,rfl⟩,by rw [t3],by rw [t3];exact this.1⟩
 join:=fun a p q c' t _ _ h1 ⟨d,h2,_⟩=>by
  obtain ⟨z,w,hz,hw,e1,h5,h6,h7,h8,rfl⟩:=(Qca hok hl).1 h2;obtain ⟨t1,t2,t3⟩:=Qby hw;obtain ⟨_,rfl⟩:=h1;rw [t3];exact h2
 cst:=fun a q d h=>by
  obtain ⟨⟨v,⟨y,z,hy,hz,h1,h2,h3,h4,rfl,h5⟩,h6,h7⟩,h8,h9⟩:=h;refine ⟨h8,h9,v,⟨y,hy,h5⟩,by rw [(Qby hz).2.2],?_⟩
  rcases h5 with ⟨⟨p,c1,t,g1,g2,rfl⟩,_⟩|⟨g,_⟩
  · obtain ⟨y',hy',_,hcy⟩:=h8
    rw [hy] at hy'
    cases hy'
    refine ⟨p,c1,t,Qrm hok hl hb hn hy hcy g1,g2,rfl,?_⟩;obtain ⟨g3,rfl⟩:=g2;obtain ⟨w,z',hw,hz',e⟩:=Qbm g3;rw [hz] at hz'
    cases hz'
    obtain ⟨z',hz',_,hcz⟩:=h9;rw [hz] at hz'
    cases hz'
    have m1:=Zm hy;have m2:=Zm hz;refine (Qca hok hl).2 ⟨w,z,hw,hz,e,g3,h4,?_,hcz,by rw [(Qby hz).2.2]⟩;rw [←Qhx hok hl hb hn m1 y.2.1 z.1 rfl (.inr rfl) m2 h2.symm];exact hcy
  · exact absurd g h6
 cst2:=fun a p q c' t hin hr ht hq hst hns=>by
  obtain ⟨y,hy,h1,h2⟩:=hin;obtain ⟨g1,u,hu,g2⟩:=Qxs hok hl hb hy hr;obtain ⟨z,w,hz,hw,e1,h5,h6,h7,h8,h9⟩:=(Qca hok hl).1 hst;rw [hu] at hz
  cases hz
  obtain ⟨t1,t2,t3⟩:=Qby hw;have hne:Qaa lb w.1≠Qaa lb w.2.1:=fun e=>hns ⟨hst,by rw [t1,t2];exact e⟩
  have hf:Qaa lb w.1=Qaa lb y.2.1:=by rw [←e1];exact g2
  obtain ⟨v,hv⟩:=hE a q y w ⟨y,hy,h1,h2⟩ hy hw hf (by rw [←hf];exact fun e=>hne e.symm)
  have hle:v≤c'+t∧v≠1152921504606846976:=by
   rcases hv with ⟨⟨p',c1,t',k1,k2,rfl⟩,k3⟩|⟨_,k3⟩
   · refine ⟨k3 _ ⟨p,c',t,g1,ht,rfl⟩,?_⟩
     have b1:=(Qet.bd hok (N:=N) (v:=c1+t') (s:=a) (t:=q) (mk:=Qbv lb (Qaa lb y.2.1)) (.inl ⟨⟨p',c1,t',k1,k2,rfl⟩,k3⟩));obtain ⟨e,h10,h11⟩:=Qhm hok p' c1 k1;have b2:=OuA.bd hok k2;have:=k3 _ ⟨p',e,t',h10,k2,rfl⟩;unfold MB at h11;omega
   · exact absurd ⟨p,c',t,g1,ht,rfl⟩ (k3 _)
  refine ⟨v+w.2.2,⟨⟨v,⟨y,w,hy,hw,h1,hf,by rw [←hf];exact fun e=>hne e.symm,h6,rfl,hv⟩,hle.2,fun hm=>?_⟩,⟨y,hy,h1,h2⟩,hq⟩,by rw [t3];omega⟩;obtain ⟨w',hw',_,hn'⟩:=(Qbr hx).1 hm;rw [hw] at hw'
  cases hw'
  exact hn' h8
 cout:=fun a k' d h=>by
  obtain ⟨⟨⟨y,z,hy,hz,h1,h2,h3,h5⟩,h6,h7⟩,h8,rfl⟩:=h
  rcases h5 with ⟨⟨p,c1,t,g1,g2,rfl⟩,_⟩|⟨g,_⟩
  · obtain ⟨y',hy',_,hcy⟩:=h8
    rw [hy] at hy'
    cases hy'
    exact ⟨p,c1,t,Qrm hok hl hb hn hy hcy g1,⟨g2,rfl⟩,rfl⟩
  · exact absurd g h6
 cout2:=fun a p k' c' t hin hr ht=>by
  obtain ⟨ht,rfl⟩:=ht;obtain ⟨y,hy,h1,h2⟩:=hin;obtain ⟨g1,u,hu,g2⟩:=Qxs hok hl hb hy hr;obtain ⟨w,z,hw,hz,e⟩:=Qbm ht.1;rw [hu] at hw
  cases hw
  have hf:Qaa lb z.1=Qaa lb y.2.1:=by rw [←e];exact g2
  obtain ⟨z',hz',k1,k2⟩:=(Qbr hx).1 hk;rw [hz] at hz'
  cases hz'
  have hne:Qaa lb z.2.1≠Qaa lb y.2.1:=fun e2=>by
   have m1:=Zm hy;have m2:=Zm hz;have:=Qhx hok hl hb hn m1 y.2.1 z.2.1 rfl (.inl rfl) m2 e2.symm;exact k2 (this.symm.trans h2)
  obtain ⟨v,hv⟩:=hE a k' y z ⟨y,hy,h1,h2⟩ hy hz hf hne
  have hle:v≤c'+t∧v≠1152921504606846976:=by
   rcases hv with ⟨⟨p',c1,t',j1,j2,rfl⟩,k3⟩|⟨_,k3⟩
   · refine ⟨k3 _ ⟨p,c',t,g1,ht,rfl⟩,?_⟩
     obtain ⟨e,h10,h11⟩:=Qhm hok p' c1 j1;have b2:=OuA.bd hok j2;have:=k3 _ ⟨p',e,t',h10,j2,rfl⟩;unfold MB at h11;omega
   · exact absurd ⟨p,c',t,g1,ht,rfl⟩ (k3 _)
  exact ⟨v,⟨⟨⟨y,z,hy,hz,h1,hf,hne,hv⟩,hle.2,hk⟩,⟨y,hy,h1,h2⟩,rfl⟩,hle.1⟩
end
structure StO (N:Qam) (x:Qan) (arcs:List Nat) (a:Nat) (Gone:Nat→Prop) (l:List Stp):Prop where
 snd:∀ s∈l,∃ b,Qai N a b≠1152921504606846976∧((∃ k:Nat,x.2[k]?=some (b:Int)∧s.2.1=(k:Int)∧s.2.2=Qai N a b)∨((b:Int) ∉ x.2∧wV N b≠1152921504606846976∧s.2.1<0∧arcs[s.1]?=some b∧s.2.2=Qai N a b+wV N b))
 outC:∀ b (k:Nat),Gone b→Qai N a b≠1152921504606846976→x.2[k]?=some (b:Int)→∃ s∈l,s.2.1=(k:Int)∧s.2.2=Qai N a b
 toC:∀ b,Gone b→Qai N a b≠1152921504606846976→(b:Int) ∉ x.2→wV N b≠1152921504606846976→∃ s∈l,s.2.1<0∧arcs[s.1]?=some b∧s.2.2=Qai N a b+wV N b
section
variable {N:Qam} {x:Qan} {arcs:List Nat} {a b:Nat} {Gone:Nat→Prop} {l:List Stp}
theorem StO.nil (N:Qam)(x:Qan)(arcs:List Nat)(a:Nat):StO N x arcs a (fun _=>False) []:=⟨fun s h=>(by cases h),fun b k h=>h.elim,fun b h=>h.elim⟩
theorem StO.gone {G':Nat→Prop}(h:StO N x arcs a Gone l)(hg:∀ b,G' b→Qai N a b≠1152921504606846976→Gone b):StO N x arcs a G' l :=
 ⟨h.snd,fun b k g t e=>h.outC b k (hg b g t) t e,fun b g t=>h.toC b (hg b g t) t⟩
theorem StO.more (h:StO N x arcs a Gone l)(z:Nat):StO N x (arcs ++[z]) a Gone l:=by have key:∀ {i:Nat} {b:Nat},arcs[i]?=some b→(arcs ++[z])[i]?=some b:=fun {i b} h=>by{rw [Yc (Zs h).1];exact h};refine ⟨fun s hs=>?_,h.outC,fun b g t m w=>?_⟩;{obtain ⟨b,h1,h2⟩:=h.snd s hs;exact ⟨b,h1,h2.imp id (fun ⟨k1,k2,k3,k4,k5⟩=>⟨k1,k2,k3,key k4,k5⟩)⟩};{obtain ⟨s,h1,h2,h3,h4⟩:=h.toC b g t m w;exact ⟨s,h1,h2,key h3,h4⟩}
theorem StO.skip (h:StO N x arcs a Gone l) (hb:Qai N a b=1152921504606846976∨((b:Int) ∉ x.2∧wV N b=1152921504606846976)):StO N x arcs a (fun q=>Gone q∨q=b) l:=by refine ⟨h.snd,fun q k g t e=>?_,fun q g t m w=>?_⟩;{(rcases g with g|rfl);{exact h.outC q k g t e};{(rcases hb with hb|hb);{exact absurd hb t};{exact absurd (Zm e) hb.1}}};{(rcases g with g|rfl);{exact h.toC q g t m w};{(rcases hb with hb|hb);{exact absurd hb t};{exact absurd hb.2 w}}}
theorem Qns {l:List Int} (h:l.Pairwise (·<·)) {i j:Nat} {v:Int} (hi:l[i]?=some v) (hj:l[j]?=some v):i=j:=by have h1:=Qef h hi;have h2:=Qef h hj;rw [h1] at h2;omega
theorem StO.out (h:StO N x arcs a Gone l) (hs:x.2.Pairwise (·<·)) (ht:Qai N a b≠1152921504606846976) {k:Nat} (hk:x.2[k]?=some (b:Int)):StO N x arcs a (fun q=>Gone q∨q=b) (l ++[(0,(k:Int),Qai N a b)]):=by refine ⟨fun s hs=>?_,fun q k' g t e=>?_,fun q g t m w=>?_⟩;{(rcases List.mem_append.1 hs with hs|hs);{exact h.snd s hs};{obtain rfl:=List.mem_singleton.1 hs;exact ⟨b,ht,.inl ⟨k,hk,rfl,rfl⟩⟩}};{(rcases g with g|rfl);{obtain ⟨s,h1,h2⟩:=h.outC q k' g t e;exact ⟨s,List.mem_append_left _ h1,h2⟩};{obtain rfl:=Qns hs hk e;exact ⟨_,List.mem_append_right _ (List.mem_singleton.2 rfl),rfl,rfl⟩}};{(rcases g with g|rfl);{obtain ⟨s,h1,h2⟩:=h.toC q g t m w;exact ⟨s,List.mem_append_left _ h1,h2⟩};{exact absurd (Zm hk) m}}
theorem StO.to (h:StO N x arcs a Gone l)(ht:Qai N a b≠1152921504606846976) (hm:(b:Int) ∉ x.2) (hw:wV N b≠1152921504606846976) {p:Nat} (hp:arcs[p]?=some b):StO N x arcs a (fun q=>Gone q∨q=b) (l ++[(p,-1,Qai N a b+wV N b)]):=by refine ⟨fun s hs=>?_,fun q k' g t e=>?_,fun q g t m w=>?_⟩;{(rcases List.mem_append.1 hs with hs|hs);{exact h.snd s hs};{obtain rfl:=List.mem_singleton.1 hs;exact ⟨b,ht,.inr ⟨hm,hw,(by decide:(-1:Int)<0),hp,rfl⟩⟩}};{(rcases g with g|rfl);{obtain ⟨s,h1,h2⟩:=h.outC q k' g t e;exact ⟨s,List.mem_append_left _ h1,h2⟩};{exact absurd (Zm e) hm}};{(rcases g with g|rfl);{obtain ⟨s,h1,h2⟩:=h.toC q g t m w;exact ⟨s,List.mem_append_left _ h1,h2⟩};{exact ⟨_,List.mem_append_right _ (List.mem_singleton.2 rfl),(by decide:(-1:Int)<0),hp,rfl⟩}}
end
structure Qjd (N:Qam) (l:List Int) (c:Nat) (arcs:List Nat) (f:Nat→Option Nat):Prop where
 at_:∀ a∈arcs,∃ y,N.ar[a]?=some y∧Qaa l y.2.1=c
 map:∀ b p,f b=some p↔arcs[p]?=some b
theorem Qjd.nodup {N:Qam}{l:List Int}{c:Nat}{arcs:List Nat}{f:Nat→Option Nat}(h:Qjd N l c arcs f):arcs.Nodup:=by
 rw [List.Nodup,List.pairwise_iff_getElem];intro i j hi hj hij e;have h1:=(h.map (arcs[i]) i).2 (Zg hi);have h2:=(h.map (arcs[i]) j).2 (by rw [Zg hj,e]);rw [h1] at h2;injection h2 with h2
 omega
theorem Qjd.len {N:Qam}{l:List Int}{c:Nat}{arcs:List Nat}{f:Nat→Option Nat}(h:Qjd N l c arcs f):arcs.length≤N.ar.length :=
 Qfz N.ar.length arcs h.nodup (fun a ha=>by obtain ⟨y,hy,_⟩:=h.at_ a ha;exact (Zs hy).1)
theorem Qjd.push {N:Qam}{l:List Int}{c b:Nat}{arcs:List Nat}{f:Nat→Option Nat}(h:Qjd N l c arcs f){y:Tri} (hy:N.ar[b]?=some y) (hc:Qaa l y.2.1=c) (hno:f b=none):Qjd N l c (arcs ++[b]) (fun q=>if q=b then some arcs.length else f q):=by refine ⟨fun a ha=>?_,fun q p=>?_⟩;{(rcases List.mem_append.1 ha with ha|ha);{exact h.at_ a ha};{obtain rfl:=List.mem_singleton.1 ha;exact ⟨y,hy,hc⟩}};{by_cases e:q=b;{subst e;rw [if_pos rfl];constructor;{intro e2;injection e2 with e2;subst e2;rw [Yb (Zn _),Yy];rfl};{intro e2;(rcases Nat.lt_trichotomy p arcs.length with h1|h1|h1);{rw [Yc h1] at e2;have:=(h.map q p).2 e2;rw [hno] at this;cases this};{rw [h1]};{rw [Yd (by simp;omega)] at e2;cases e2}}};{rw [if_neg e];rw [h.map];(rcases Nat.lt_trichotomy p arcs.length with h1|h1|h1);{rw [Yc h1]};{subst h1;rw [Yb (Zn _),Yy,Yd (Zn _)];constructor;{intro h;cases h};{intro h;injection h with h;exact absurd h.symm e}};{have h2:(arcs ++[b])[p]?=none:=Yd (by rw [Yp,List.length_singleton];omega);have h3:arcs[p]?=none:=Yd (by omega);rw [h2,h3]}}}
theorem Qqm.of {N:Qam}{l:List Int}{c:Nat}{x:Qan}{arcs:List Nat}{f:Nat→Option Nat} {Ls:List (List Stp)} (h:Qjd N l c arcs f) (hl:Ls.length=arcs.length) (hs:∀ (p a:Nat) (t:List Stp),arcs[p]?=some a→Ls[p]?=some t→StO N x arcs a (fun _=>True) t) :
 Qqm N l c x arcs (fun p=>Ls.getD p []):=by have key:∀ p a,arcs[p]?=some a→StO N x arcs a (fun _=>True) (Ls.getD p []):=fun p a ha=>by{have hp:=(Zs ha).1;exact hs p a _ ha (Qbq [] (by omega))};exact ⟨h.at_,fun p a ha s hs=>(key p a ha).snd s hs,fun p a b k ha ht hk=>(key p a ha).outC b k trivial ht hk,fun p a b ha ht hm hw=>(key p a ha).toC b trivial ht hm hw⟩
theorem Qqm.fld {N:Qam}(hok:Qap N){l:List Int}{c:Nat}{x:Qan}{arcs:List Nat} {Ls:List (List Stp)} (h:Qqm N l c x arcs (fun p=>Ls.getD p [])):Qoi (fun p=>Ls.getD p []) arcs.length x.2.length 4294967296:=by
 have key:∀ p,p<arcs.length→∀ s∈Ls.getD p [],(s.2.1<0→s.1<arcs.length)∧s.2.1<x.2.length∧0≤s.2.2∧s.2.2≤4294967296:=fun p hp s hs=>by
  obtain ⟨b,h1,h2⟩:=h.snd p _ (Zg hp) s hs;have hb:=(Qcb hok _ b).resolve_left h1;rcases h2 with ⟨k,h3,h4,h5⟩|⟨h3,h4,h5,h6,h7⟩
  {have hk:=(Zs h3).1;exact ⟨fun e=>by omega,by omega,by omega,by omega⟩};{obtain ⟨xa,y,_,hy,_⟩:=Qbm h1;rw [(Qby hy).2.2] at h4 h7;have hw:=(Qdk (hok.arcs y (Zm hy)).w).resolve_left h4;exact ⟨fun _=>(Zs h6).1,by omega,by omega,by omega⟩}
 exact Kcn
def Qcu (N:Qam)(lb:List Int)(a m:Nat)(v:Int):Prop:=∃ y z,N.ar[a]?=some y∧N.ar[m]?=some z∧Qaa lb y.1≠Qaa lb y.2.1∧Qaa lb z.1=Qaa lb y.2.1∧Qaa lb z.2.1≠Qaa lb y.2.1∧Qet N (Qbv lb (Qaa lb y.2.1)) a m v
structure Qsl (N:Qam) (l lb:List Int) (c:Nat) (x:Qan) (pl:List Nat) (L:Nat→List Stp):Prop where
 at_:∀ a∈pl,Qci N l lb c a
 all:∀ a,Qci N l lb c a→∃ p:Nat,pl[p]?=some a
 nd:pl.Nodup
 snd:∀ (p a:Nat),pl[p]?=some a→∀ s∈L p,∃ m v,Qcu N lb a m v∧v≠1152921504606846976∧((∃ k:Nat,x.2[k]?=some (m:Int)∧s.2.1=(k:Int)∧s.2.2=v)∨((m:Int) ∉ x.2∧wV N m≠1152921504606846976∧s.2.1<0∧pl[s.1]?=some m∧s.2.2=v+wV N m))
 outC:∀ (p a m:Nat) (v:Int) (k:Nat),pl[p]?=some a→Qcu N lb a m v→v≠1152921504606846976→x.2[k]?=some (m:Int)→∃ s∈L p,s.2.1=(k:Int)∧s.2.2=v
 toC:∀ (p a m:Nat) (v:Int),pl[p]?=some a→Qcu N lb a m v→v≠1152921504606846976→(m:Int) ∉ x.2→wV N m≠1152921504606846976→∃ s∈L p,s.2.1<0∧pl[s.1]?=some m∧s.2.2=v+wV N m
section
variable {N:Qam} {l lb:List Int} {c:Nat} {x:Qan} {pl:List Nat} {L:Nat→List Stp}
theorem Qsl.fwd (h:Qsl N l lb c x pl L){i s:Nat} (hi:pl[i]?=some s) {p:Nat} {d:Int} (hr:Rch (StF L) i p d) :
 ∃ a,pl[p]?=some a∧Rch (fun a m d=>StC N lb x a m d∧Qci N l lb c a∧Qci N l lb c m) s a d:=by
 induction hr with
 | start=>exact ⟨s,hi,.start⟩
 | @step p q d e _ h2 ih =>
  obtain ⟨a,ha,hr⟩:=ih;obtain ⟨t,ht,h3,rfl,rfl⟩:=h2;obtain ⟨m,v,⟨y,z,hy,hz,k1,k2,k3,k4⟩,h5,h6⟩:=h.snd p a ha t ht;rcases h6 with ⟨k,_,h6,_⟩|⟨h6,h7,_,h8,h9⟩
  {omega};{rw [(Qby hz).2.2] at h7 h9;exact ⟨m,h8,hr.step ⟨⟨v,⟨y,z,hy,hz,k1,k2,k3,h7,h9,k4⟩,h5,h6⟩,h.at_ a (Zm ha),h.at_ m (Zm h8)⟩⟩}
theorem Qsl.bwd (h:Qsl N l lb c x pl L){i s:Nat} (hi:pl[i]?=some s) {a:Nat} {d:Int} (hr:Rch (fun a m d=>StC N lb x a m d∧Qci N l lb c a∧Qci N l lb c m) s a d) :
 ∃ p:Nat,pl[p]?=some a∧Rch (StF L) i p d:=by
 induction hr with
 | start=>exact ⟨i,hi,.start⟩
 | @step a m d e _ h2 ih =>obtain ⟨p,ha,hr⟩:=ih;obtain ⟨⟨v,⟨y,z,hy,hz,k1,k2,k3,k4,rfl,k5⟩,h5,h6⟩,_,_⟩:=h2;have hw:=(Qby hz).2.2;obtain ⟨t,ht,h10,h11,h12⟩:=h.toC p a m v ha ⟨y,z,hy,hz,k1,k2,k3,k5⟩ h5 h6 (by rw [hw];exact k4);exact ⟨t.1,h11,hr.step ⟨t,ht,h10,rfl,by rw [h12,hw]⟩⟩
theorem rchK_end {N:Qam}{l lb:List Int}{c a b:Nat}{d:Int}(hb:Qci N l lb c b) (hr:Rch (StK N l lb c) a b d):a=b∧d=0:=by
 cases hr with
 | start=>exact ⟨rfl,rfl⟩
 | step _ h2 =>obtain ⟨y,hy,h3,_⟩:=hb;obtain ⟨t1,t2,_⟩:=Qby hy;have:=h2.2;rw [t1,t2] at this;exact absurd this h3
theorem Qsl.entry (h:Qsl N l lb c x pl L)(hok:Qap N)(hl:l.length=N.vs.length)(hb:lb.length=N.vs.length)(hn:Qdr lb l) (hx:(Qaf N.ar l)[c]?=some x)
 (hE:∀ a m y z,Qci N l lb c a→N.ar[a]?=some y→N.ar[m]?=some z→Qaa lb z.1=Qaa lb y.2.1→Qaa lb z.2.1≠Qaa lb y.2.1→∃ v,Qet N (Qbv lb (Qaa lb y.2.1)) a m v)
 {i s k t:Nat} (hi:pl[i]?=some s) (hk:x.2[k]?=some (t:Int)) {v:Int} (hv:Lst (Qok (StF L) (OuF L) i k) v):Qet N (Qbv l c) s t v:=by have hs:=h.at_ s (Zm hi);have hinj:∀ (b k':Nat),x.2[k']?=some (b:Int)→k'=k→b=t:=fun b k' h1 e=>by{subst e;rw [hk] at h1;have:=Yv h1;omega};have hN:=Qyj hok hl hb hn hx hE (Zm hk);have h1:Lst (Qok (fun a m d=>StC N lb x a m d∧Qci N l lb c a∧Qci N l lb c m) (fun a t' d=>OuC N lb x a t' d∧Qci N l lb c a∧t'=t) s t) v:=by{refine hv.conv (fun d hd=>?_) (fun d hd=>?_);{obtain ⟨p,d1,d2,h1,⟨u,hu,h2,h3⟩,rfl⟩:=hd;obtain ⟨a,ha,hr⟩:=h.fwd hi h1;obtain ⟨m,v,⟨y,z,hy,hz,k1,k2,k3,k4⟩,h5,h6⟩:=h.snd p a ha u hu;(rcases h6 with ⟨k',h6,h7,h8⟩|⟨_,_,h6,_⟩);{have hb:=hinj m k' h6 (by omega);subst hb;refine ⟨_,⟨a,d1,v,hr,⟨⟨⟨y,z,hy,hz,k1,k2,k3,k4⟩,h5,Zm hk⟩,h.at_ a (Zm ha),rfl⟩,rfl⟩,by omega⟩};{omega}};{obtain ⟨a,d1,d2,h1,⟨⟨⟨y,z,hy,hz,k1,k2,k3,k4⟩,h5,h6⟩,_,_⟩,rfl⟩:=hd;obtain ⟨p,ha,hr⟩:=h.bwd hi h1;obtain ⟨u,hu,h7,h8⟩:=h.outC p a t d2 k ha ⟨y,z,hy,hz,k1,k2,k3,k4⟩ h5 hk;exact ⟨_,⟨p,d1,_,hr,⟨u,hu,h7,rfl⟩,rfl⟩,by omega⟩}};have h2:=hN.same (fun p q d _=>Classical.em _) hs h1;refine h2.conv (fun d hd=>?_) (fun d hd=>?_);{obtain ⟨p,d1,d2,g1,g2,rfl⟩:=hd;exact ⟨_,⟨p,d1,d2,g1,g2.1,rfl⟩,Int.le_refl _⟩};{obtain ⟨p,d1,d2,g1,g2,rfl⟩:=hd;exact ⟨_,⟨p,d1,d2,g1,⟨g2,rfl⟩,rfl⟩,Int.le_refl _⟩}
theorem Qsl.bound (h:Qsl N l lb c x pl L)(hok:Qap N)(hl:l.length=N.vs.length)(hb:lb.length=N.vs.length)(hn:Qdr lb l) (hx:(Qaf N.ar l)[c]?=some x)
 (hE:∀ a m y z,Qci N l lb c a→N.ar[a]?=some y→N.ar[m]?=some z→Qaa lb z.1=Qaa lb y.2.1→Qaa lb z.2.1≠Qaa lb y.2.1→∃ v,Qet N (Qbv lb (Qaa lb y.2.1)) a m v) (t:Nat) (ht:(t:Int)∈x.2)
 {i s:Nat} (hi:pl[i]?=some s) (p:Nat) (d:Int) (hr:Rch (StF L) i p d):∃ e,Rch (StF L) i p e∧e≤MB:=by have hN:=Qyj hok hl hb hn hx hE ht;obtain ⟨a,ha,h1⟩:=h.fwd hi hr;obtain ⟨e,h2,h3⟩:=Qhm hok a d (hN.up h1);obtain ⟨a',c1,c2,_,g1,g2,g3⟩:=hN.down (fun p q d _=>Classical.em _) (h.at_ s (Zm hi)) h2;obtain ⟨rfl,rfl⟩:=rchK_end (h.at_ a (Zm ha)) g2;obtain ⟨q,hq,h4⟩:=h.bwd hi g1;have:q=p:=(List.getElem?_inj (Zs hq).1 h.nd).1 (hq.trans ha.symm);subst this;exact ⟨c1,h4,by omega⟩
theorem Qsl.fld (h:Qsl N l lb c x pl L)(hok:Qap N):Qoi L pl.length x.2.length 70377334112256:=by
 have key:∀ p,p<pl.length→∀ s∈L p,(s.2.1<0→s.1<pl.length)∧s.2.1<x.2.length∧0≤s.2.2∧s.2.2≤70377334112256:=fun p hp s hs=>by
  obtain ⟨m,v,⟨y,z,hy,hz,k1,k2,k3,k4⟩,h5,h6⟩:=h.snd p _ (Zg hp) s hs;have hv:=(k4.bd hok).resolve_left h5;rcases h6 with ⟨k,h3,h4,h5⟩|⟨h3,h4,h5,h6,h7⟩
  {have hk:=(Zs h3).1;exact ⟨fun e=>by omega,by omega,by omega,by omega⟩};{rw [(Qby hz).2.2] at h4 h7;have hw:=(Qdk (hok.arcs z (Zm hz)).w).resolve_left h4;exact ⟨fun _=>(Zs h6).1,by omega,by omega,by omega⟩}
 exact Kcn
end
attribute [local go_sem ↓] Go.wp_at_zero Go.wp_at_succ
structure LeW (W0 W:World) (K:Nat→Prop) (cb db gh n:Nat) (cl:List Int) (dn:List Bool) (hp:Nat→Option Int):Prop where
 kept:Qaz K W0 W
 size:W0.heap.size≤W.heap.size
 b0:Blk W cb 2 (Qcf cl)
 dd:Blk W db 4 (Qfc dn)
 hh:Qck W (fun b=>K b∨b=cb∨b=db) gh n hp
 ld:dn.length=n
 kl:∀ b,K b→b<W0.heap.size
 kb:¬K cb∧¬K db∧cb≠db
section
variable {W0 W W':World} {K:Nat→Prop} {cb db gh n:Nat} {cl:List Int} {dn:List Bool} {hp hp':Nat→Option Int}
theorem LeW.below (h:LeW W0 W K cb db gh n cl dn hp)(hb:Below W.heap.size W W'):LeW W0 W' K cb db gh n cl dn hp :=
 ⟨h.kept.trans (Qaz.below hb) h.size,Yx h.size hb.size,h.b0.below hb h.b0.lt,h.dd.below hb h.dd.lt,h.hh.more hb (fun b hb'=>⟨Yu (h.hh.lt b hb') hb.size,.inl hb'⟩),h.ld,h.kl,h.kb⟩
theorem LeW.row (h:LeW W0 W K cb db gh n cl dn hp){i:Nat}{x:Int}{cl':List Int}(e:cl.set i x=cl'):LeW W0 (W.setCell ⟨cb,i,none⟩ (.int .i64 x)) K cb db gh n cl' dn hp :=
 ⟨h.kept.trans (Qaz.set _ _ _ _ h.kb.1) h.size,by simpa [World.setCell] using h.size,h.b0.setI e,h.dd.far_ (fun e=>h.kb.2.2 e.symm) _,h.hh.set (.inr (.inl rfl)) _,h.ld,h.kl,h.kb⟩
theorem LeW.mark (h:LeW W0 W K cb db gh n cl dn hp){p:Nat}:LeW W0 (W.setCell ⟨db,p,none⟩ (.bool true)) K cb db gh n cl (dn.set p true) hp :=
 ⟨h.kept.trans (Qaz.set _ _ _ _ h.kb.2.1) h.size,by simpa [World.setCell] using h.size,h.b0.far_ h.kb.2.2 _,h.dd.setB rfl,h.hh.set (.inr (.inr rfl)) _,by rw [Yq];exact h.ld,h.kl,h.kb⟩
theorem LeW.put (h:LeW W0 W K cb db gh n cl dn hp) (hh:Qck W' (fun b=>K b∨b=cb∨b=db) gh n hp') (ha:Aft (fun b=>K b∨b=cb∨b=db) W W'):LeW W0 W' K cb db gh n cl dn hp' :=
 ⟨h.kept.trans (ha.kept.mono (fun _ hb=>.inl hb)) h.size,Yx h.size ha.size,(ha.kept cb (.inr (.inl rfl)) h.b0.lt).trans h.b0,(ha.kept db (.inr (.inr rfl)) h.dd.lt).trans h.dd,hh,h.ld,h.kl,h.kb⟩
end
structure LeR (V:World) (c1 c2 c3 c4 cb db gh n off outs cap:Nat) (sum:Int):Prop where
 r0:V.cell? ⟨c1,0,none⟩=some (.slice (some ⟨cb,off,none⟩) outs cap)
 s0:V.cell? ⟨c2,0,none⟩=some (.int .i64 sum)
 d0:V.cell? ⟨c3,0,none⟩=some (.slice (some ⟨db,0,none⟩) n n)
 h0:V.cell? ⟨c4,0,none⟩=some (.pointer (some ⟨gh,0,none⟩))
theorem LeR.le {V W:World}{c1 c2 c3 c4 cb db gh n off outs cap:Nat}{sum:Int}(h:LeR V c1 c2 c3 c4 cb db gh n off outs cap sum)(hl:Le V W):LeR W c1 c2 c3 c4 cb db gh n off outs cap sum:=⟨hl _ _ h.r0,hl _ _ h.s0,hl _ _ h.d0,hl _ _ h.h0⟩
def mid (pre row post:List Int):List Int:=pre ++row ++post
theorem Qyd {pre row post:List Int}{k:Nat}{z:Int} (h:row[k]?=some z):(mid pre row post)[pre.length+k]?=some z:=by unfold mid;have hk:=(Zs h).1;rw [List.append_assoc,Yb (by omega),Yc (by omega),show pre.length+k-pre.length=k by omega,h]
theorem mid_set {pre row post:List Int}{k:Nat}(z:Int)(h:k<row.length):(mid pre row post).set (pre.length+k) z=mid pre (row.set k z) post:=by unfold mid;rw [List.append_assoc,List.set_append_right _ _ (by omega),List.set_append_left _ _ (by omega),show pre.length+k-pre.length=k by omega,List.append_assoc]
set_option maxHeartbeats 1000000 in
theorem Qxv (W0 w:World)(K:Nat→Prop)(c1 c2 c3 c4 cb db gh n off outs cap:Nat)(pre row post:List Int)(dn:List Bool)(hp:Nat→Option Int)(sum:Int)(s:Stp)
 (hR:LeR (msk W0 K) c1 c2 c3 c4 cb db gh n off outs cap sum) (hW:LeW W0 w K cb db gh n (mid pre row post) dn hp) (hpre:pre.length=off) (hrow:row.length=outs)
 (ho:s.2.1<outs) (ht:s.2.1<0→s.1<n) (h0:0≤sum) (h1:0≤s.2.2) (h2:sum+s.2.2≤1000000000000000000) :
 Calls prog 156 #[.agg #[.int .i64 s.1,.int .i64 s.2.1,.int .i64 s.2.2],.pointer (some ⟨c1,0,none⟩),.pointer (some ⟨c2,0,none⟩),.pointer (some ⟨c3,0,none⟩),.pointer (some ⟨c4,0,none⟩)] w
  fun e w'=>e=.returned (.tuple #[])∧LeW W0 w' K cb db gh n (mid pre (Qcs dn sum (row,hp) s).1 post) dn (Qcs dn sum (row,hp) s).2∧Aft K w w':=by
 obtain ⟨to,out,d⟩:=s;simp only at ho ht h1 h2 ⊢;have hRw:=hR.le (Le.kept hW.kept);have e1:IntKind.i64.wrap (sum+d)=sum+d:=IntWalk.i64_in _ (by omega);have HKL:=Zh (show ∀ b,K b→b<w.heap.size from fun b hb=>by have:=hW.kl b hb;have:=hW.size;omega);by_cases hout:0≤out;{obtain ⟨k,rfl⟩:∃ k:Nat,out=(k:Int):=⟨out.toNat,by omega⟩;(have hk:k<row.length:=by omega);obtain ⟨z,hz⟩:∃ z,row[k]?=some z:=⟨_,Zg hk⟩;have hst:Qcs dn sum (row,hp) (to,(k:Int),d)=(row.set k (min z (sum+d)),hp):=by{unfold Qcs;simp [hz]};rw [hst];have HST:=Zh (mid_set (pre:=pre) (post:=post) (min z (sum+d)) hk);have HMG:=Zh (Qyd (pre:=pre) (post:=post) hz);have HW:=Zh hW;have HR:=Zh hRw;rw [hpre] at HST HMG;clear hst hz hR hW hRw hpre hrow;(go_enter func156,ntmps156);(go_wp2_with fail);(refine Qaj ?_;intro w1 hw1);(have hb1:Below w.heap.size w w1:=by rw [hw1];exact Qah);(have hX:Blk w1 w.heap.size 269 #[.int .i64 to,.int .i64 k,.int .i64 d]:=by rw [hw1];exact Blk.new _ _ _);have HW1:=Zh (HW.out.below hb1);have HR1:=Zh (HR.out.le (Le.below hb1));have HA1:=Zh (show Aft K w w1 from Aft.below hb1 HKL.out);(have x1:w1.cell? ⟨w.heap.size,1,none⟩=some (.int .i64 k):=Zq hX;have x2:w1.cell? ⟨w.heap.size,2,none⟩=some (.int .i64 d):=Zq hX;have r0:=HR1.out.r0;have s0:=HR1.out.s0;have cz:=HW1.out.b0.cellI HMG.out;have cf:=HW1.out.b0.frozen (off+k);have i1:0≤(k:Int):=by omega);(have i2:(k:Int)<outs:=by omega);clear hw1 hX hb1;refine Qbj 14 (S:=fun V=>V=w1.drew) (by kernel_rfl) rfl (fun _=>?_);refine tkK 0 9 (h:=⟨_,tv,?_⟩);simp only [pE,List.set];refine tkF 1 10 (h:=⟨_,tv,?_⟩);simp only [pE,List.set];refine tkK 2 11 (h:=⟨_,tv,?_⟩);simp only [pE,List.set];refine tkK 3 12 (h:=⟨_,tv,?_⟩);simp only [pE,List.set];refine tkF 4 13 (h:=⟨_,tv,?_⟩);simp only [pE,List.set];refine tkK 5 14 (h:=⟨_,tv,?_⟩);simp only [pE,List.set];refine tkF 6 15 (h:=⟨_,tv,?_⟩);simp only [pE,List.set];refine tkK 7 16 (h:=⟨_,tv,?_⟩);simp only [pE,List.set];refine tkK 8 17 (h:=⟨_,tv,?_⟩);simp only [pE,List.set];refine tkF 9 18 (h:=⟨_,tv,?_⟩);simp only [pE,List.set];refine tkK 10 19 (h:=⟨_,tv,?_⟩);simp only [pE,List.set];refine tkF 11 20 (h:=⟨_,tv,?_⟩);simp only [pE,List.set];refine tkF 12 21 (h:=⟨_,tv,?_⟩);simp only [pE,List.set];refine tkF 13 22 (h:=⟨_,tv,?_⟩);simp only [pE,List.set];refine Qbt (k:=14) (by kernel_rfl) rfl (fun K hK=>?_);go_simp;refine hK.out _ _ ?_;clear hK K;refine Qbp (by kernel_rfl) ?_ _;(try rw [show (if sum+d<z then sum+d else z)=min z (sum+d) by split <;> omega]);(go_wp2_with fail);go_end0;exact ⟨rfl,(HW1.out.row HST.out).below (Zr _ _).drew,(HA1.out.set HW1.out.kb.1 _).drew⟩}
 · have hst:Qcs dn sum (row,hp) (to,out,d)=(row,if dn.getD to false=false then Qfg hp to (sum+d) else hp):=by{unfold Qcs;simp only [if_neg hout]};(rw [hst];have htn:to<n:=ht (by omega));(have HW:=Zh hW;have HR:=Zh hRw;have htl:to<dn.length:=by rw [hW.ld];exact htn);have HPU:=Zh (fun V (hV:LeW W0 V K cb db gh n (mid pre row post) dn hp)=>Qfx V hp hV.hh to htn (sum+d) (by omega) (by omega));obtain ⟨m,hm⟩:∃ m,dn.getD to false=m:=⟨_,rfl⟩;have HM:=Zh (show dn[to]?=some m from hm▸Qbq false htl);(rw [hm];have c2f:=fun ob=>Zc (((Zr w.heap.size w)).alloc (Zn _) ob) (Zn _) hRw.s0);(have c3f:=fun ob=>Zc (((Zr w.heap.size w)).alloc (Zn _) ob) (Zn _) hRw.d0);(have c4f:=fun ob=>Zc (((Zr w.heap.size w)).alloc (Zn _) ob) (Zn _) hRw.h0);(have cdf:=fun ob=>Zc (((Zr w.heap.size w)).alloc (Zn _) ob) (Zn _) (hW.dd.cellB (i:=to) HM.out));(have i1:0≤(to:Int):=by omega);(have i2:(to:Int)<n:=by omega);clear hst hR hW hRw hpre hrow hm ho htl
   cases m with
   | true =>(go_enter func156,ntmps156);(go_wp2_with fail);go_end0;exact ⟨rfl,HW.out.below Qah,Aft.below Qah HKL.out⟩
   | false =>(go_enter func156,ntmps156);(go_wp2_with fail);(refine Qac ?_;intro w1 hw1);(have hb1:Below w.heap.size w w1:=by rw [hw1];exact Qah);(clear hw1;with_reducible refine (HPU.out w1 (HW.out.below hb1)).mono ?_);rintro e w2 ⟨rfl,hh,ha⟩;have HW2:=Zh ((HW.out.below hb1).put hh ha);have HA2:=Zh ((Aft.below hb1 HKL.out).trans (ha.mono (fun _ hb=>.inl hb)));clear hh ha hb1;(go_wp2_with fail);go_end0;exact ⟨rfl,by simpa using HW2.out,HA2.out⟩
end Go.Proofs.YtdheeddnkdhfeaaGreatDoor
