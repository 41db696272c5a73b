/- Qbl of the proof: Ki, Ko, Dn, En, BaP, BkP, Le1, InC, Mb. -/
import Derived.Test.YtkaaakbejnlbgaaGreatDoorD11
import Derived.Test.YtkaaakbejnlbgaaGreatDoorShelf
import Derived.Test.YtkaaakbejnlbgaaGreatDoorShelf2
import Derived.Sort.OwnSortedInts
import Derived.Lib.RowBridge
set_option maxHeartbeats 2000000
namespace Go.Proofs.YtkaaakbejnlbgaaGreatDoor
open Go.RowKit Go.Proofs.Tryz
attribute [local go_sem ↓] Go.wp_at_zero Go.wp_at_succ
def srt (zs:Iz):Iz:=zs.mergeSort fun x y=>decide (x≤y)
theorem Rhw (zs:Iz):(srt zs).length=zs.length:=by unfold srt;simp
theorem srt_mem {zs:Iz}{x:Int}:x∈srt zs↔x∈zs:=by unfold srt;exact List.mem_mergeSort
theorem srt_le (zs:Iz):(srt zs).Pairwise (·≤·):=by have:=List.pairwise_mergeSort (le:=fun x y:Int=>decide (x≤y)) (fun a b c h1 h2=>by simp at *;omega) (fun a b=>by simp;omega) zs;exact this.imp (fun h=>by simpa using h)
theorem Own.sorted {w:World}{B g n c:Nat}{zs:Iz} (h:Own w B 3 1 (some ⟨g,0,none⟩) n c (Qae zs)):zs.length=n∧g<w.heap.size∧B≤g∧Go.Sort.Holds (Value.int .i64) w g 0 zs.toArray∧n≤c∧c≤9223372036854775807 ∧
 ∀ (ts:Iz) (q:Nat) (os:Array Obj),ts.length=n→Own (Go.Sort.grow (Go.Sort.putRow (Value.int .i64) (Go.Sort.ahead w q) g 0 ts.toArray) os) B 3 1 (some ⟨g,0,none⟩) n c (Qae ts):=by
 have hl:zs.length=n:=by have:=h.1;simpa [Qae] using this
 rcases h.2 with ⟨h',_⟩|⟨g',cap,cur,h1,h2,h3,h4,h5,h6,h7⟩
 {cases h'};{cases h1;(have h7':cur.toList.take zs.length=zs.map (Value.int .i64):=by rw [hl];simpa [Qae] using h7);refine ⟨hl,(Array.getElem?_eq_some_iff.1 h3).1,h2,holds_of_blockI h3 h7',h4,(by unfold maxLen at h5;exact h5),fun ts q os ht=>?_⟩;have:=ownsRow_sortedI (os:=os) (n:=q) (ss:=zs) (ts:=ts) (by rw [ht,hl]) h2 h3 (by rw [hl];exact h4) h5 h6;rw [hl] at this;exact this}
theorem sort_own (g n c B:Nat)(zs:Iz)(w:World) (h:Own w B 3 1 (some ⟨g,0,none⟩) n c (Qae zs)) (hn:n≤1000000000) :
 Calls prog 238 #[.slice (some ⟨g,0,none⟩) n c] w fun e w'=>e=.returned (.tuple #[])∧Own w' B 3 1 (some ⟨g,0,none⟩) n c (Qae (srt zs))∧w.grownBy w' (some g):=by obtain ⟨hl,hg,hB,hH,h1,h2,h3⟩:=h.sorted;have hcon:=Any.slices_Sort_int sortIL g 0 c zs w hH hg Oo;rw [hl] at hcon;refine Calls.mono (show Calls prog 238 _ _ _ from hcon) ?_;rintro e w' ⟨rfl,q,os,rfl⟩;exact ⟨rfl,h3 (srt zs) q os (by rw [Rhw,hl]),grownBy_sortedI _⟩
theorem Qwu (g n c B:Nat)(zs:Iz)(w:World) (h:Own w B 3 1 (some ⟨g,0,none⟩) n c (Qae zs)) :
 Calls prog 239 #[.slice (some ⟨g,0,none⟩) n c] w fun e w'=>e=.returned (.slice (some ⟨g,0,none⟩) (Lib.compact zs).length c)∧RdI w' (some ⟨g,0,none⟩) (Lib.compact zs).length (Lib.compact zs)∧w.grownBy w' (some g):=by obtain ⟨hl,hg,hB,hH,h1,h2,h3⟩:=h.sorted;have hcon:=Any.slices_Compact_int compactL g 0 c zs w hH Oo Oo;rw [hl] at hcon;have hcl:=Lib.compact_length_le zs;refine Calls.mono (show Calls prog 239 _ _ _ from hcon) ?_;rintro e w' ⟨rfl,q,rfl⟩;have ho:=h3 (Lib.compact zs ++List.replicate (n-(Lib.compact zs).length) 0) q #[] (by simp;omega);rw [Go.Sort.grow_empty] at ho;have hgr:=grownBy_sortedI (w:=w) (g:=g) (n:=q) (os:=#[]) (Lib.compact zs ++List.replicate (n-(Lib.compact zs).length) 0).toArray;rw [Go.Sort.grow_empty] at hgr;refine ⟨rfl,?_,hgr⟩;have:=ho.rds.rdI.take (m:=(Lib.compact zs).length) Oo;rwa [List.take_append_of_le_length (Zn _),List.take_length] at this
theorem Qwt {zs:Iz}{x:Int}:x∈Lib.compact zs↔x∈zs:=by
 unfold Lib.compact Lib.compactUpTo;simp only [List.mem_map,List.mem_filter,List.mem_range];constructor;{rintro ⟨j,⟨hj,_⟩,rfl⟩;rw [getElem!_pos _ _ (by simpa using hj)];simp}
 · intro hx;obtain ⟨k,hk⟩:=Yr hx;have hkl:=(Zs hk).1
   have hex:∃ j,j<zs.length∧zs.toArray[j]! = x∧Lib.keeps zs.toArray j=true:=by
    (have hkx:zs.toArray[k]! = x:=by rw [getElem!_pos _ _ (by simpa using hkl)];simpa using (Zs hk).2);clear hk
    induction k with
    | zero=>exact ⟨0,hkl,hkx,by simp [Lib.keeps]⟩
    | succ k ih =>by_cases e:zs.toArray[k+1]! = zs.toArray[k]!;{exact ih Oo (by rw [←e];exact hkx)};{exact ⟨k+1,hkl,hkx,Lib.keeps_pos e⟩}
   obtain ⟨j,h1,h2,h3⟩:=hex;exact ⟨j,⟨h1,h3⟩,h2⟩
theorem Rbo {zs:Iz} (h:zs.Pairwise (·≤·)):(Lib.compact zs).Pairwise (·<·):=by
 unfold Lib.compact Lib.compactUpTo;rw [List.pairwise_map]
 have hle:∀ i j:Nat,i≤j→j<zs.length→zs.toArray[i]!≤zs.toArray[j]!:=fun i j hij hj=>by
  rw [getElem!_pos _ _ (by simp;omega),getElem!_pos _ _ (by simpa using hj)];simp only [List.getElem_toArray];rcases Nat.lt_or_ge i j with h1|h1
  {exact List.pairwise_iff_getElem.1 h i j Oo hj h1};{(obtain rfl:i=j:=Oo);exact Int.le_refl _}
 have hr:((List.range zs.length).filter (Lib.keeps zs.toArray)).Pairwise (fun i j=>i<j∧j<zs.length∧Lib.keeps zs.toArray j=true):=by{rw [List.pairwise_filter];refine List.Pairwise.imp_of_mem ?_ (List.pairwise_lt_range (n:=zs.length));intro i j hi hj hij _ hk;exact ⟨hij,List.mem_range.1 hj,hk⟩};refine hr.imp ?_;rintro i j ⟨hij,hj,hk⟩;have h1:=hle i (j-1) Oo Oo;have h2:=hle (j-1) j Oo hj;have h3:zs.toArray[j]!≠zs.toArray[j-1]!:=fun e=>by{rw [Lib.keeps_neg Oo e] at hk;cases hk};omega
def Qfl (row below:Iz)(cell:Int)(k:Nat):Iz:=((List.range k).filter (fun v:Nat=>row.getD v 0 == cell)).map (fun v=>below.getD v 0)
theorem Quo {row below:Iz}{cell x y:Int}{k:Nat} (hx:row[k]?=some x) (hy:below[k]?=some y):Qfl row below cell (k+1)=Qfl row below cell k ++(if x=cell then [y] else []):=by
 unfold Qfl;have ex:row.getD k 0=x:=by rw [Ya,hx];rfl
 have ey:below.getD k 0=y:=by rw [Ya,hy];rfl
 rw [List.range_succ,List.filter_append,List.map_append];congr 1
 by_cases e:x=cell;{rw [if_pos e];simp only [List.filter_cons,List.filter_nil,ex,e,beq_self_eq_true,if_true,List.map_cons,List.map_nil,ey]};{rw [if_neg e];simp only [List.filter_cons,List.filter_nil,ex,beq_eq_false_iff_ne.2 e,Bool.false_eq_true,if_false,List.map_nil]}
theorem Qxl (row below:Iz)(cell:Int)(k:Nat):(Qfl row below cell k).length≤k:=by unfold Qfl;rw [List.length_map];exact Yx (List.length_filter_le _ _) Sm
theorem Qod {row below:Iz}{cell x:Int}{n:Nat}(h1:row.length=n)(h2:below.length=n):x∈Qfl row below cell n↔∃ v:Nat,row[v]?=some cell∧below[v]?=some x:=by unfold Qfl;simp only [List.mem_map,List.mem_filter,List.mem_range,beq_iff_eq,Ya];constructor;{rintro ⟨v,⟨hv,e1⟩,e2⟩;have a1:row[v]?=some row[v]:=Zg Oo;have a2:below[v]?=some below[v]:=Zg Oo;rw [a1] at e1;rw [a2] at e2;refine ⟨v,?_,?_⟩;{rw [a1];exact congrArg some e1};{rw [a2];exact congrArg some e2}};{rintro ⟨v,e1,e2⟩;refine ⟨v,⟨by have:=(Zs e1).1;omega,by rw [e1];rfl⟩,by rw [e2];rfl⟩}
def Qdk (row below:Iz)(cell:Int)(n:Nat):Iz:=Lib.compact (srt (Qfl row below cell n))
theorem Rfw (row below:Iz)(cell:Int)(n:Nat):(Qdk row below cell n).Pairwise (·<·):=Rbo (srt_le _)
theorem Qld {row below:Iz}{cell x:Int}{n:Nat}(h1:row.length=n)(h2:below.length=n):x∈Qdk row below cell n↔∃ v:Nat,row[v]?=some cell∧below[v]?=some x:=by unfold Qdk;rw [Qwt,srt_mem,Qod h1 h2]
theorem Rcb (row below:Iz)(cell:Int)(n:Nat):(Qdk row below cell n).length≤n:=by unfold Qdk;refine Yx (Lib.compact_length_le _) ?_;rw [Rhw];exact Qxl _ _ _ _
theorem kids_own (Q:Oz)(L cq j n:Nat)(cell:Int) (ls:Lz) (row below:Iz) (w:World) (h:RdT w Q L ls) (hr:ls[j+1]?=some row) (hb:ls[j]?=some below) (hL:L≤1000000) (h1:row.length=n) (h2:below.length=n) (hn:n≤1000000) (hne:cell∈row) :
 Calls prog 220 #[.agg #[.slice Q L cq],.int .i64 ((j:Int)+1+1),.int .i64 cell] w fun e w'=>∃ A c,e=.returned (.slice A (Qdk row below cell n).length c)∧RdI w' A (Qdk row below cell n).length (Qdk row below cell n)∧(∀ b,Qaa A=some b→w.heap.size≤b)∧Bw w w':=by
 have HN1:=Zh (show ∀ V,Bw w V→Calls prog 216 #[.agg #[.slice Q L cq],.int .i64 ((j:Int)+1)] V fun e w'=>∃ A n c,e=.returned (.slice A n c)∧RdI V A n below∧n≤c∧c≤9223372036854775807∧Bw V w' from fun V hV=>Qle Q L cq j ls below V (h.below hV) hb hL)
 have HN2:=Zh (show ∀ V,Bw w V→Calls prog 216 #[.agg #[.slice Q L cq],.int .i64 ((j:Int)+1+1)] V fun e w'=>∃ A n c,e=.returned (.slice A n c)∧RdI V A n row∧n≤c∧c≤9223372036854775807∧Bw V w' from fun V hV=>by
  have:=Qle Q L cq (j+1) ls row V (h.below hV) hr hL
  simpa using this)
 have HL1:=Zh h1;have HL2:=Zh h2;have HNE:=Zh hne;have hjL:j+1<L:=by rw [←h.1];exact (Zs hr).1
 clear h hr hb h1 h2 hne;have i1:¬((j:Int)+1+1<2):=Oo
 have i2:(j:Int)+1+1-1=j+1:=Oo
 go_enter func220,ntmps220
 go_wp2_with fail
 (refine Qab ?_;intro w1 hw1);have hb1:Bw w w1:=by rw [hw1];exact Qag
 have hQ:Blk w1 w.heap.size 146 #[.slice Q L cq]:=by rw [hw1];exact Qbi
 clear hw1;with_reducible refine (HN1.o w1 hb1).mono ?_
 rintro e w2 ⟨Ab,n1,cb,rfl,hrb,_,_,hb2⟩;obtain rfl:n=n1:=by rw [←hrb.1];exact HL2.o.symm
 have hbw2:=Zb hb1 hb2;have HRB:=Zh (hrb.below hb2);have y0:=(hQ.below hb2 hQ.lt).cell 0;simp only [Yo,Yn] at y0;clear hrb hb2 hQ;go_wp2_with fail
 with_reducible refine (HN2.o w2 hbw2).mono ?_
 rintro e w3 ⟨Ar,n2,cr,rfl,hrr,_,_,hb3⟩;obtain rfl:n=n2:=by rw [←hrr.1];exact HL1.o.symm
 have hbw3:=Zb hbw2 hb3;have HRR:=Zh (hrr.below hb3);have HRB3:=Zh (HRB.o.below hb3);have hz0:=hbw3.size;clear hrr hb3 y0 HRB;go_wp2_with fail
 go_loopw [8,21] (fun x q W=>w3.heap.size≤W.heap.size∧Bw w3 W∧∃ (k:Nat) (X:Oz) (m cx:Nat),k≤n∧q=.int .i64 k∧x=.slice X m cx∧m≤k∧Own W w3.heap.size 3 1 X m cx (Qae (Qfl row below cell k))) (fun _ q _=>n-(intOf q).toNat)
 case atStart=>exact ⟨Zn _,Zr _ _,0,none,0,0,Nat.zero_le _,rfl,rfl,Zn _,Own.nil _ _ _ _⟩
 case round =>
  obtain ⟨hsz,hbl,k,X,m,cx,hk,rfl,rfl,hmk,hown⟩:=hrel;by_cases hlt:k<n
  {obtain ⟨rb,ro,x,rfl,hx,hcx⟩:=HRR.o.at_ hlt;(obtain ⟨bb,bo,y,rfl,hy,hcy⟩:=HRB3.o.at_ hlt;have hcx2:=Zc hbl (Zn _) hcx;have hcy2:=Zc hbl (Zn _) hcy;have HNX:=Zh (Quo (cell:=cell) hx hy);have k1:0≤(k:Int):=Oo);(have k2:(k:Int)<n:=Oo);clear hx hy hcx hcy;by_cases hxc:x=cell;{(have e1:(x == cell)=true:=by simpa using hxc);have HXC:=Zh hxc;clear hxc;have hr4:Bw wr (wr.alloc (.cells #[.int .i64 y] 3)):=Qag;have hownA:=hown.below hr4;have hrA:Rds (wr.alloc (.cells #[.int .i64 y] 3)) 1 (some ⟨wr.heap.size,0,none⟩) 1 (Qae [y]):=(Blk.new wr 3 (Qbr [y])).rds rfl;have hblA:=Zb hbl hr4;(go_wp2_with (at_builtin;with_reducible refine Qam rfl (.tmp 35) (.tmp 40) 64 rfl 3 _ 1 8 Qbm underlying64 rfl Oo rfl rfl hownA hrA (Qaq _) Oo Oo (by simp;omega) ?_));intro A' c' w' hown' hg _;have hbl5:Bw w3 w':=Zo hblA hg hownA (by simp;omega);have hsz5:=hbl5.size;have HO:=Zh hown';clear hown' hg hownA hrA hblA hr4 hown hbl;go_wp2;go_roundw;(case rel=>exact ⟨hsz5,hbl5,k+1,A',m+1,c',Oo,by go_num,rfl,Oo,by rw [HNX.o,if_pos HXC.o,Qbq];exact HO.o⟩);case measure=>simp [intOf];omega};{(have e1:(x == cell)=false:=by simpa using hxc);have HXC:=Zh hxc;clear hxc;(go_wp2_with fail);go_roundw;(case rel=>exact ⟨hsz,hbl,k+1,X,m,cx,Oo,by go_num,rfl,Oo,by rw [HNX.o,if_neg HXC.o];simpa using hown⟩);case measure=>simp [intOf];omega}};{(obtain rfl:n=k:=Oo);(have hm:(Qfl row below cell n).length=m:=by have:=hown.1;simpa [Qae] using this);have hm0:0<m:=by{obtain ⟨v,hv⟩:=Yr HNE.o;have hvn:=(Zs hv).1;rw [HL1.o] at hvn;obtain ⟨z,hz⟩:∃ z,below[v]?=some z:=⟨_,Zg (by rw [HL2.o];exact hvn)⟩;have hmem:=(Qod HL1.o HL2.o).2 ⟨v,hv,hz⟩;rw [←hm];exact List.length_pos_of_mem hmem};obtain ⟨gk,cur,rfl,hgk,_⟩:=hown.block hm0;have HS:=Zh (sort_own gk m cx w3.heap.size _ wr hown Oo);clear hown hm hm0 HNE;(go_wp2_with fail);(with_reducible refine HS.o.mono ?_);rintro e w5 ⟨rfl,hown5,hg5⟩;have hbl5:Bw w3 w5:=hbl.grown hg5 hsz (fun k hk=>by cases hk;exact hgk);have hz5:=hg5.size;have HC:=Zh (Qwu gk m cx w3.heap.size _ w5 hown5);clear hown5 hg5 HS;(go_wp2_with fail);(with_reducible refine HC.o.mono ?_);rintro e w6 ⟨rfl,hr6,hg6⟩;have hbl6:Bw w3 w6:=hbl5.grown hg6 Oo (fun k hk=>by cases hk;exact hgk);have HR6:=Zh hr6;clear hr6 hg6 HC;(go_wp2_with fail);go_ret;exact ⟨_,_,rfl,HR6.o,fun b hb=>by injection hb with hb;simp only at hb;omega,Zb hbw3 hbl6⟩}
theorem Rhc (o j n:Nat)(cell:Int)(ar:List Tri) (ls:Lz) (row below:Iz) (w:World) (h:Qjm w o ar ls) (hr:ls[j+1]?=some row) (hb:ls[j]?=some below) (hL:ls.length≤1000000) (h1:row.length=n) (h2:below.length=n) (hn:n≤1000000) (hne:cell∈row) :
 Calls prog 187 #[.pointer (some ⟨o,0,none⟩),.int .i64 ((j:Int)+1+1),.int .i64 cell] w fun e w'=>∃ A c,e=.returned (.slice A (Qdk row below cell n).length c)∧RdI w' A (Qdk row below cell n).length (Qdk row below cell n)∧(∀ b,Qaa A=some b→w.heap.size≤b)∧Bw w w':=by
 obtain ⟨Q,F,T,G,S,L,m,cq,cf,ct,cg,cs,h⟩:=h;have h0:=h.n0;have HK:=Zh (kids_own Q L cq j n cell ls row below w h.part hr hb (by rw [←h.part.1];exact hL) h1 h2 hn hne);clear h hr hb hL h1 h2 hn hne;generalize Qdk row below cell n=ks at *;go_enter func187,ntmps187
 go_wp2_with fail
 with_reducible refine HK.o.mono ?_
 rintro e w' ⟨A,c,rfl,hA,hlt,hbl⟩;have HA:=Zh hA;clear hA;go_wp2_with fail
 go_ret;exact ⟨A,c,rfl,HA.o,hlt,hbl⟩
theorem Qoc {ar:List Tri}{l:Iz}{c:Nat}{x:Qap} (hx:(Qaf ar l)[c]?=some x) {y:Int}:y∈x.1↔y∈Qbn ar l∧toC ar l y=(c:Int):=by
 have hc:c<(Qay l).toNat:=by rw [←Qau ar l];exact (Zs hx).1
 rw [Qdd hc] at hx;cases hx;simp only [List.mem_filter,beq_iff_eq]
theorem Qux {ar:List Tri}{l:Iz}{c:Nat}{x:Qap} (hx:(Qaf ar l)[c]?=some x) {y:Int}:y∈x.2↔y∈Qbn ar l∧frC ar l y=(c:Int):=by
 have hc:c<(Qay l).toNat:=by rw [←Qau ar l];exact (Zs hx).1
 rw [Qdd hc] at hx;cases hx;simp only [List.mem_filter,beq_iff_eq]
theorem Qhm {ar:List Tri}{l:Iz}{y:Int}:y∈Qbn ar l↔∃ (a:Nat) (t:Tri),y=(a:Int)∧ar[a]?=some t∧Qad l t.1≠Qad l t.2.1:=by unfold Qbn Qwn;rw [List.mem_map];constructor;{rintro ⟨p,hp,rfl⟩;obtain ⟨h1,h2⟩:=List.mem_filter.1 hp;refine ⟨p.2,p.1,rfl,(List.mem_zipIdx_iff_getElem?.1 h1),?_⟩;simpa [Qlt] using h2};{rintro ⟨a,t,rfl,h1,h2⟩;exact ⟨(t,a),List.mem_filter.2 ⟨List.mem_zipIdx_iff_getElem?.2 h1,by simpa [Qlt] using h2⟩,rfl⟩}
theorem Qds {l:Iz}{v:Nat}(h:v<l.length):l[v]?=some (Qad l (v:Int)):=by rw [Qcf (Zg h),Zg h]
theorem Qky {ar:List Tri}{n:Nat}{l:Iz}(hl:Qgz n l){z:Int}(hz:z∈l):∃ q:Nat,z=(q:Int)∧∃ y,(Qaf ar l)[q]?=some y:=by have h0:=hl.lo z hz;have h1:=Rac hz;exact ⟨z.toNat,Oo,_,Qdd Oo⟩
theorem Qgh {l lb:Iz}{n u v:Nat}(hn:Qeh lb l)(h1:l.length=n)(h2:lb.length=n)(hu:u<n)(hv:v<n) (h:Qad l (u:Int)≠Qad l (v:Int)):Qad lb (u:Int)≠Qad lb (v:Int):=by intro e;have a1:=Qds (l:=l) (v:=u) Oo;have a2:=Qds (l:=l) (v:=v) Oo;have b1:=Qds (l:=lb) (v:=u) Oo;have b2:=Qds (l:=lb) (v:=v) Oo;have c1:=hn u v _ _ _ _ b1 b2 a1 a2 Oo;have c2:=hn v u _ _ _ _ b2 b1 a2 a1 Oo;exact h Oo
theorem Rbj {n c:Nat}{l:Iz}(hl:Qgz n l) (hc:c<(Qay l).toNat):(c:Int)∈l:=hl.all c Oo
theorem Qmt {l:Iz}{c:Int}{v:Int}(h:v.toNat<l.length):(Qgd l c).getD v.toNat false=true↔Qad l v=c:=by unfold Qgd Qad;rw [Ya,Ya,Yt,Zg h];simp
theorem Qdq {N:Qak}(hok:Qar N){l:Iz}(hl:l.length=N.vs.length){c:Int}{a b:Nat}{d:Int}:StA N (Qgd l c) a b d ↔
 ∃ x y,N.ar[a]?=some x∧N.ar[b]?=some y∧x.2.1=y.1∧Qal N a b≠1152921504606846976∧y.2.2≠1152921504606846976∧Qad l y.1=c∧Qad l y.2.1=c∧d=Qal N a b+y.2.2:=by constructor;{rintro ⟨y,hy,h1,h2,h3,h4,h5⟩;obtain ⟨x,y',hx,hy',e⟩:=Qby h1;rw [hy] at hy';cases hy';have ho:=hok.arcs y (Zm hy);have f0:=ho.f0;have f1:=ho.f1;have g0:=ho.g0;have g1:=ho.g1;exact ⟨x,y,hx,hy,e,h1,h2,(Qmt Oo).1 h3,(Qmt Oo).1 h4,h5⟩};{rintro ⟨x,y,hx,hy,e,h1,h2,h3,h4,h5⟩;have ho:=hok.arcs y (Zm hy);have f0:=ho.f0;have f1:=ho.f1;have g0:=ho.g0;have g1:=ho.g1;exact ⟨y,hy,h1,h2,(Qmt Oo).2 h3,(Qmt Oo).2 h4,h5⟩}
def toV (N:Qak)(a:Nat):Int:=(N.ar.getD a (0,0,0)).2.1
def frV (N:Qak)(a:Nat):Int:=(N.ar.getD a (0,0,0)).1
def wV (N:Qak)(a:Nat):Int:=(N.ar.getD a (0,0,0)).2.2
theorem Qbw {N:Qak}{a:Nat}{x:Tri} (h:N.ar[a]?=some x):toV N a=x.2.1∧frV N a=x.1∧wV N a=x.2.2:=by unfold toV frV wV;rw [Ya,h];exact ⟨rfl,rfl,rfl⟩
theorem Qef {N:Qak}{l:Iz}{c:Nat}{x:Qap} (hx:(Qaf N.ar l)[c]?=some x) {a:Nat}:(a:Int)∈x.1↔∃ y,N.ar[a]?=some y∧Qad l y.1≠c∧Qad l y.2.1=c:=by rw [Qoc hx,Qhm];constructor;{rintro ⟨⟨a',t,e,h1,h2⟩,h3⟩;(have:a'=a:=Oo);subst this;rw [Qys h1] at h3;exact ⟨t,h1,by rw [←h3];exact h2,h3⟩};{rintro ⟨t,h1,h2,h3⟩;exact ⟨⟨a,t,rfl,h1,by rw [h3];exact h2⟩,by rw [Qys h1];exact h3⟩}
theorem Qcn {N:Qak}{l:Iz}{c:Nat}{x:Qap} (hx:(Qaf N.ar l)[c]?=some x) {a:Nat}:(a:Int)∈x.2↔∃ y,N.ar[a]?=some y∧Qad l y.1=c∧Qad l y.2.1≠c:=by rw [Qux hx,Qhm];constructor;{rintro ⟨⟨a',t,e,h1,h2⟩,h3⟩;(have:a'=a:=Oo);subst this;rw [Qxc h1] at h3;exact ⟨t,h1,h3,by rw [←h3];exact fun e=>h2 e.symm⟩};{rintro ⟨t,h1,h2,h3⟩;exact ⟨⟨a,t,rfl,h1,by rw [h2];exact fun e=>h3 e.symm⟩,by rw [Qxc h1];exact h2⟩}
/-! By arcs: each place an arc. -/
structure Qwj (N:Qak) (l:Iz) (c:Nat) (x:Qap) (arcs:List Nat) (L:Nat→List Stp):Prop where
 at_:∀ a∈arcs,∃ y,N.ar[a]?=some y∧Qad l y.2.1=c
 snd:∀ p a,arcs[p]?=some a→∀ s∈L p,∃ b,Qal N a b≠1152921504606846976∧((∃ k:Nat,x.2[k]?=some (b:Int)∧s.2.1=(k:Int)∧s.2.2=Qal N a b)∨((b:Int) ∉ x.2∧wV N b≠1152921504606846976∧s.2.1<0∧arcs[s.1]?=some b∧s.2.2=Qal N a b+wV N b))
 outC:∀ p a b (k:Nat),arcs[p]?=some a→Qal N a b≠1152921504606846976→x.2[k]?=some (b:Int)→∃ s∈L p,s.2.1=(k:Int)∧s.2.2=Qal N a b
 toC:∀ p a b,arcs[p]?=some a→Qal N a b≠1152921504606846976→(b:Int) ∉ x.2→wV N b≠1152921504606846976→∃ s∈L p,s.2.1<0∧arcs[s.1]?=some b∧s.2.2=Qal N a b+wV N b
section
variable {N:Qak} {l:Iz} {c:Nat} {x:Qap} {arcs:List Nat} {L:Nat→List Stp}
theorem Qwj.fwd (h:Qwj N l c x arcs L)(hok:Qar N)(hl:l.length=N.vs.length) (hx:(Qaf N.ar l)[c]?=some x) {i s:Nat} (hi:arcs[i]?=some s) {p:Nat} {d:Int} (hr:Rch (StF L) i p d) :
 ∃ a,arcs[p]?=some a∧Rch (StA N (Qgd l c)) s a d:=by
 induction hr with
 | start=>exact ⟨s,hi,.start⟩
 | @step p q d e _ h2 ih =>
  obtain ⟨a,ha,hr⟩:=ih;obtain ⟨t,ht,h3,rfl,rfl⟩:=h2;obtain ⟨b,h4,h5⟩:=h.snd p a ha t ht;rcases h5 with ⟨k,_,h6,_⟩|⟨h6,h7,_,h8,h9⟩
  {omega};{refine ⟨b,h8,hr.step ((Qdq hok hl).2 ?_)⟩;obtain ⟨xa,y,hxa,hy,e⟩:=Qby h4;rw [(Qbw hy).2.2] at h7 h9;obtain ⟨xa',hxa',hc⟩:=h.at_ a (Zm ha);rw [hxa] at hxa';cases hxa';refine ⟨xa,y,hxa,hy,e,h4,h7,by rw [←e];exact hc,?_,h9⟩;apply Classical.byContradiction;intro hn;exact h6 ((Qcn hx).2 ⟨y,hy,by rw [←e];exact hc,hn⟩)}
theorem Qwj.bwd (h:Qwj N l c x arcs L)(hok:Qar N)(hl:l.length=N.vs.length) (hx:(Qaf N.ar l)[c]?=some x) {i s:Nat} (hi:arcs[i]?=some s) {a:Nat} {d:Int} (hr:Rch (StA N (Qgd l c)) s a d) :
 ∃ p,arcs[p]?=some a∧Rch (StF L) i p d:=by
 induction hr with
 | start=>exact ⟨i,hi,.start⟩
 | @step a b d e _ h2 ih =>
  obtain ⟨p,ha,hr⟩:=ih;obtain ⟨xa,y,hxa,hy,e,h4,h7,h8,h9,rfl⟩:=(Qdq hok hl).1 h2;have hw:=(Qbw hy).2.2
  obtain ⟨t,ht,h10,h11,h12⟩:=h.toC p a b ha h4 (fun hm=>by
   obtain ⟨y',hy',_,h13⟩:=(Qcn hx).1 hm;rw [hy] at hy'
   cases hy'
   exact h13 h9) (by rw [hw];exact h7)
  exact ⟨t.1,h11,hr.step ⟨t,ht,h10,rfl,by rw [h12,hw]⟩⟩
theorem Qwj.entry (h:Qwj N l c x arcs L)(hok:Qar N)(hl:l.length=N.vs.length) (hx:(Qaf N.ar l)[c]?=some x) {i s k t:Nat} (hi:arcs[i]?=some s) (hk:x.2[k]?=some (t:Int)) {v:Int} (hv:Lst (Qwl (StF L) (OuF L) i k) v) :
 Qhc N (Qgd l c) s t v:=by have hinj:∀ (b k':Nat),x.2[k']?=some (b:Int)→k'=k→b=t:=fun b k' h1 e=>by{subst e;rw [hk] at h1;have:=Yv h1;omega};refine hv.conv (fun d hd=>?_) (fun d hd=>?_);{obtain ⟨p,d1,d2,h1,⟨u,hu,h2,h3⟩,rfl⟩:=hd;obtain ⟨a,ha,hr⟩:=h.fwd hok hl hx hi h1;obtain ⟨b,h4,h5⟩:=h.snd p a ha u hu;(rcases h5 with ⟨k',h6,h7,h8⟩|⟨_,_,h6,_⟩);{have hb:=hinj b k' h6 Oo;subst hb;exact ⟨_,⟨a,d1,_,hr,⟨h4,rfl⟩,rfl⟩,Oo⟩};{omega}};{obtain ⟨a,d1,d2,h1,⟨h2,h3⟩,rfl⟩:=hd;obtain ⟨p,ha,hr⟩:=h.bwd hok hl hx hi h1;obtain ⟨u,hu,h4,h5⟩:=h.outC p a t k ha h2 hk;exact ⟨_,⟨p,d1,_,hr,⟨u,hu,h4,rfl⟩,rfl⟩,Oo⟩}
theorem Qwj.bound (h:Qwj N l c x arcs L)(hok:Qar N)(hl:l.length=N.vs.length) (hx:(Qaf N.ar l)[c]?=some x) {i s:Nat} (hi:arcs[i]?=some s) (hnd:arcs.Nodup) (p:Nat) (d:Int) (hr:Rch (StF L) i p d):∃ e,Rch (StF L) i p e∧e≤MB:=by obtain ⟨a,ha,h1⟩:=h.fwd hok hl hx hi hr;obtain ⟨e,h2,h3⟩:=Qjg hok a d h1;obtain ⟨q,hq,h4⟩:=h.bwd hok hl hx hi h2;have:q=p:=(List.getElem?_inj (Zs hq).1 hnd).1 (hq.trans ha.symm);subst this;exact ⟨e,h4,h3⟩
end
/-! By kids: each place an arc that enters a kid. -/
def StC (N:Qak)(lb:Iz)(x:Qap):Qbu:=fun a m d=>∃ v,(∃ y z,N.ar[a]?=some y∧N.ar[m]?=some z∧Qad lb y.1≠Qad lb y.2.1∧Qad lb z.1=Qad lb y.2.1∧Qad lb z.2.1≠Qad lb y.2.1∧z.2.2≠1152921504606846976∧d=v+z.2.2 ∧
 Qhc N (Qgd lb (Qad lb y.2.1)) a m v)∧v≠1152921504606846976∧(m:Int) ∉ x.2
def OuC (N:Qak)(lb:Iz)(x:Qap):Qbu:=fun a m v=>(∃ y z,N.ar[a]?=some y∧N.ar[m]?=some z∧Qad lb y.1≠Qad lb y.2.1∧Qad lb z.1=Qad lb y.2.1∧Qad lb z.2.1≠Qad lb y.2.1 ∧
 Qhc N (Qgd lb (Qad lb y.2.1)) a m v)∧v≠1152921504606846976∧(m:Int)∈x.2
def StK (N:Qak)(l lb:Iz)(c:Nat):Qbu:=fun a b d=>StA N (Qgd l c) a b d∧Qad lb (frV N b)=Qad lb (toV N b)
section
variable {N:Qak} {l lb:Iz} {c:Nat} {x:Qap}
theorem Rfv (hok:Qar N)(hl:l.length=N.vs.length)(hb:lb.length=N.vs.length){a p:Nat}{y:Tri}{d:Int} (hy:N.ar[a]?=some y) (hr:Rch (StK N l lb c) a p d) :
 Rch (StA N (Qgd lb (Qad lb y.2.1))) a p d∧∃ z,N.ar[p]?=some z∧Qad lb z.2.1=Qad lb y.2.1:=by
 induction hr with
 | start=>exact ⟨.start,y,hy,rfl⟩
 | @step p q d e _ h2 ih =>obtain ⟨ih,z,hz,hc⟩:=ih;obtain ⟨h3,h4⟩:=h2;obtain ⟨z',w,hz',hw,e1,h5,h6,h7,h8,rfl⟩:=(Qdq hok hl).1 h3;rw [hz] at hz';cases hz';obtain ⟨t1,t2,t3⟩:=Qbw hw;rw [t1,t2] at h4;refine ⟨ih.step ((Qdq hok hb).2 ⟨z,w,hz,hw,e1,h5,h6,by rw [←e1];exact hc,?_,rfl⟩),w,hw,?_⟩;{rw [←h4,←e1];exact hc};{rw [←h4,←e1];exact hc}
theorem Qun (hok:Qar N)(hl:l.length=N.vs.length)(hb:lb.length=N.vs.length)(hn:Qeh lb l){y z:Tri}(hy:y∈N.ar)(u v:Int)(hu:u=y.2.1)(hv:v=z.2.1∨v=z.1)(hz:z∈N.ar)(h:Qad lb u=Qad lb v):Qad l u=Qad l v:=by
 have o1:=hok.arcs y hy;have o2:=hok.arcs z hz;have a0:=o1.g0;have a1:=o1.g1;have b0:=o2.g0;have b1:=o2.g1;have c0:=o2.f0;have c1:=o2.f1;apply Classical.byContradiction;intro hne;have hu0:0≤u∧u<N.vs.length:=by subst hu;exact ⟨a0,a1⟩
 have hv0:0≤v∧v<N.vs.length:=by rcases hv with rfl|rfl <;> omega
 obtain ⟨u',rfl⟩:∃ u':Nat,u=(u':Int):=⟨u.toNat,Oo⟩;obtain ⟨v',rfl⟩:∃ v':Nat,v=(v':Int):=⟨v.toNat,Oo⟩;exact Qgh hn hl hb Oo Oo hne h
theorem Rfu (hok:Qar N)(hl:l.length=N.vs.length)(hb:lb.length=N.vs.length)(hn:Qeh lb l){a p:Nat}{y:Tri}{d:Int} (hy:N.ar[a]?=some y) (hc:Qad l y.2.1=c) (hr:Rch (StA N (Qgd lb (Qad lb y.2.1))) a p d) :
 Rch (StK N l lb c) a p d:=by
 induction hr with
 | start=>exact .start
 | @step p q d e _ h2 ih =>obtain ⟨z,w,hz,hw,e1,h5,h6,h7,h8,rfl⟩:=(Qdq hok hb).1 h2;have m1:=Zm hy;have m2:=Zm hw;obtain ⟨t1,t2,t3⟩:=Qbw hw;refine ih.step ⟨(Qdq hok hl).2 ⟨z,w,hz,hw,e1,h5,h6,?_,?_,rfl⟩,by rw [t1,t2,h7,h8]⟩;{rw [←Qun hok hl hb hn m1 y.2.1 w.1 rfl (.inr rfl) m2 h7.symm];exact hc};{rw [←Qun hok hl hb hn m1 y.2.1 w.2.1 rfl (.inl rfl) m2 h8.symm];exact hc}
def Qff (N:Qak)(l lb:Iz)(c:Nat)(a:Nat):Prop:=∃ y,N.ar[a]?=some y∧Qad lb y.1≠Qad lb y.2.1∧Qad l y.2.1=c
theorem nested (hok:Qar N)(hl:l.length=N.vs.length)(hb:lb.length=N.vs.length)(hn:Qeh lb l) (hx:(Qaf N.ar l)[c]?=some x)
 (hE:∀ a m y z,Qff N l lb c a→N.ar[a]?=some y→N.ar[m]?=some z→Qad lb z.1=Qad lb y.2.1→Qad lb z.2.1≠Qad lb y.2.1→∃ v,Qhc N (Qgd lb (Qad lb y.2.1)) a m v) {k:Nat} (hk:(k:Int)∈x.2) :
 Qne (StA N (Qgd l c)) (fun a t d=>OuA N a t d∧t=k) (StK N l lb c) (fun a m v=>∃ y,N.ar[a]?=some y∧Qhc N (Qgd lb (Qad lb y.2.1)) a m v) (fun a m d=>StC N lb x a m d∧Qff N l lb c a∧Qff N l lb c m) (fun a t d=>OuC N lb x a t d∧Qff N l lb c a∧t=k) (Qff N l lb c) (wV N) (OuA N) where
 sub:=fun p q d h=>h.1
 split:=fun p q d h=>by
  obtain ⟨z,w,hz,hw,e1,h5,h6,h7,h8,rfl⟩:=(Qdq hok hl).1 h;obtain ⟨t1,t2,t3⟩:=Qbw hw
  by_cases hc:Qad lb w.1=Qad lb w.2.1
  · exact .inl ⟨h,by rw [t1,t2];exact hc⟩
  · have:=(Qei (hok.arcs w (Zm hw)).w).resolve_left h6
    exact .inr ⟨⟨w,hw,hc,h8⟩,_,⟨h5,rfl⟩,by rw [t3],by rw [t3];exact this.1⟩
 join:=fun a p q c' t _ _ h1 ⟨d,h2,_⟩=>by
  obtain ⟨z,w,hz,hw,e1,h5,h6,h7,h8,rfl⟩:=(Qdq hok hl).1 h2;obtain ⟨t1,t2,t3⟩:=Qbw hw;obtain ⟨_,rfl⟩:=h1;rw [t3];exact h2
 cst:=fun a q d h=>by
  obtain ⟨⟨v,⟨y,z,hy,hz,h1,h2,h3,h4,rfl,h5⟩,h6,h7⟩,h8,h9⟩:=h;refine ⟨h8,h9,v,⟨y,hy,h5⟩,by rw [(Qbw hz).2.2],?_⟩
  rcases h5 with ⟨⟨p,c1,t,g1,g2,rfl⟩,_⟩|⟨g,_⟩
  · obtain ⟨y',hy',_,hcy⟩:=h8
    rw [hy] at hy'
    cases hy'
    refine ⟨p,c1,t,Rfu hok hl hb hn hy hcy g1,g2,rfl,?_⟩;obtain ⟨g3,rfl⟩:=g2;obtain ⟨w,z',hw,hz',e⟩:=Qby g3;rw [hz] at hz'
    cases hz'
    obtain ⟨z',hz',_,hcz⟩:=h9;rw [hz] at hz'
    cases hz'
    have m1:=Zm hy;have m2:=Zm hz;refine (Qdq hok hl).2 ⟨w,z,hw,hz,e,g3,h4,?_,hcz,by rw [(Qbw hz).2.2]⟩;rw [←Qun hok hl hb hn m1 y.2.1 z.1 rfl (.inr rfl) m2 h2.symm];exact hcy
  · exact absurd g h6
 cst2:=fun a p q c' t hin hr ht hq hst hns=>by
  obtain ⟨y,hy,h1,h2⟩:=hin;obtain ⟨g1,u,hu,g2⟩:=Rfv hok hl hb hy hr;obtain ⟨z,w,hz,hw,e1,h5,h6,h7,h8,h9⟩:=(Qdq hok hl).1 hst;rw [hu] at hz
  cases hz
  obtain ⟨t1,t2,t3⟩:=Qbw hw;have hne:Qad lb w.1≠Qad lb w.2.1:=fun e=>hns ⟨hst,by rw [t1,t2];exact e⟩
  have hf:Qad lb w.1=Qad lb y.2.1:=by rw [←e1];exact g2
  obtain ⟨v,hv⟩:=hE a q y w ⟨y,hy,h1,h2⟩ hy hw hf (by rw [←hf];exact fun e=>hne e.symm)
  have hle:v≤c'+t∧v≠1152921504606846976:=by
   rcases hv with ⟨⟨p',c1,t',k1,k2,rfl⟩,k3⟩|⟨_,k3⟩
   · refine ⟨k3 _ ⟨p,c',t,g1,ht,rfl⟩,?_⟩
     have b1:=(Qhc.bd hok (N:=N) (v:=c1+t') (s:=a) (t:=q) (mk:=Qgd lb (Qad lb y.2.1)) (.inl ⟨⟨p',c1,t',k1,k2,rfl⟩,k3⟩));obtain ⟨e,h10,h11⟩:=Qjg hok p' c1 k1;have b2:=OuA.bd hok k2;have:=k3 _ ⟨p',e,t',h10,k2,rfl⟩;unfold MB at h11;omega
   · exact absurd ⟨p,c',t,g1,ht,rfl⟩ (k3 _)
  refine ⟨v+w.2.2,⟨⟨v,⟨y,w,hy,hw,h1,hf,by rw [←hf];exact fun e=>hne e.symm,h6,rfl,hv⟩,hle.2,fun hm=>?_⟩,⟨y,hy,h1,h2⟩,hq⟩,by rw [t3];omega⟩;obtain ⟨w',hw',_,hn'⟩:=(Qcn hx).1 hm;rw [hw] at hw'
  cases hw'
  exact hn' h8
 cout:=fun a k' d h=>by
  obtain ⟨⟨⟨y,z,hy,hz,h1,h2,h3,h5⟩,h6,h7⟩,h8,rfl⟩:=h
  rcases h5 with ⟨⟨p,c1,t,g1,g2,rfl⟩,_⟩|⟨g,_⟩
  · obtain ⟨y',hy',_,hcy⟩:=h8
    rw [hy] at hy'
    cases hy'
    exact ⟨p,c1,t,Rfu hok hl hb hn hy hcy g1,⟨g2,rfl⟩,rfl⟩
  · exact absurd g h6
 cout2:=fun a p k' c' t hin hr ht=>by
  obtain ⟨ht,rfl⟩:=ht;obtain ⟨y,hy,h1,h2⟩:=hin;obtain ⟨g1,u,hu,g2⟩:=Rfv hok hl hb hy hr;obtain ⟨w,z,hw,hz,e⟩:=Qby ht.1;rw [hu] at hw
  cases hw
  have hf:Qad lb z.1=Qad lb y.2.1:=by rw [←e];exact g2
  obtain ⟨z',hz',k1,k2⟩:=(Qcn hx).1 hk;rw [hz] at hz'
  cases hz'
  have hne:Qad lb z.2.1≠Qad lb y.2.1:=fun e2=>by
   have m1:=Zm hy;have m2:=Zm hz;have:=Qun hok hl hb hn m1 y.2.1 z.2.1 rfl (.inl rfl) m2 e2.symm;exact k2 (this.symm.trans h2)
  obtain ⟨v,hv⟩:=hE a k' y z ⟨y,hy,h1,h2⟩ hy hz hf hne
  have hle:v≤c'+t∧v≠1152921504606846976:=by
   rcases hv with ⟨⟨p',c1,t',j1,j2,rfl⟩,k3⟩|⟨_,k3⟩
   · refine ⟨k3 _ ⟨p,c',t,g1,ht,rfl⟩,?_⟩
     obtain ⟨e,h10,h11⟩:=Qjg hok p' c1 j1;have b2:=OuA.bd hok j2;have:=k3 _ ⟨p',e,t',h10,j2,rfl⟩;unfold MB at h11;omega
   · exact absurd ⟨p,c',t,g1,ht,rfl⟩ (k3 _)
  exact ⟨v,⟨⟨⟨y,z,hy,hz,h1,hf,hne,hv⟩,hle.2,hk⟩,⟨y,hy,h1,h2⟩,rfl⟩,hle.1⟩
end
structure StO (N:Qak) (x:Qap) (arcs:List Nat) (a:Nat) (Gone:Nat→Prop) (l:List Stp):Prop where
 snd:∀ s∈l,∃ b,Qal N a b≠1152921504606846976∧((∃ k:Nat,x.2[k]?=some (b:Int)∧s.2.1=(k:Int)∧s.2.2=Qal N a b)∨((b:Int) ∉ x.2∧wV N b≠1152921504606846976∧s.2.1<0∧arcs[s.1]?=some b∧s.2.2=Qal N a b+wV N b))
 outC:∀ b (k:Nat),Gone b→Qal N a b≠1152921504606846976→x.2[k]?=some (b:Int)→∃ s∈l,s.2.1=(k:Int)∧s.2.2=Qal N a b
 toC:∀ b,Gone b→Qal N a b≠1152921504606846976→(b:Int) ∉ x.2→wV N b≠1152921504606846976→∃ s∈l,s.2.1<0∧arcs[s.1]?=some b∧s.2.2=Qal N a b+wV N b
section
variable {N:Qak} {x:Qap} {arcs:List Nat} {a b:Nat} {Gone:Nat→Prop} {l:List Stp}
theorem StO.nil (N:Qak)(x:Qap)(arcs:List Nat)(a:Nat):StO N x arcs a (fun _=>False) []:=⟨fun s h=>(by cases h),fun b k h=>h.elim,fun b h=>h.elim⟩
theorem StO.gone {G':Nat→Prop}(h:StO N x arcs a Gone l)(hg:∀ b,G' b→Qal N a b≠1152921504606846976→Gone b):StO N x arcs a G' l :=
 ⟨h.snd,fun b k g t e=>h.outC b k (hg b g t) t e,fun b g t=>h.toC b (hg b g t) t⟩
theorem StO.more (h:StO N x arcs a Gone l)(z:Nat):StO N x (arcs ++[z]) a Gone l:=by have key:∀ {i:Nat} {b:Nat},arcs[i]?=some b→(arcs ++[z])[i]?=some b:=fun {i b} h=>by{rw [Yc (Zs h).1];exact h};refine ⟨fun s hs=>?_,h.outC,fun b g t m w=>?_⟩;{obtain ⟨b,h1,h2⟩:=h.snd s hs;exact ⟨b,h1,h2.imp id (fun ⟨k1,k2,k3,k4,k5⟩=>⟨k1,k2,k3,key k4,k5⟩)⟩};{obtain ⟨s,h1,h2,h3,h4⟩:=h.toC b g t m w;exact ⟨s,h1,h2,key h3,h4⟩}
theorem StO.skip (h:StO N x arcs a Gone l) (hb:Qal N a b=1152921504606846976∨((b:Int) ∉ x.2∧wV N b=1152921504606846976)):StO N x arcs a (fun q=>Gone q∨q=b) l:=by refine ⟨h.snd,fun q k g t e=>?_,fun q g t m w=>?_⟩;{(rcases g with g|rfl);{exact h.outC q k g t e};{(rcases hb with hb|hb);{exact absurd hb t};{exact absurd (Zm e) hb.1}}};{(rcases g with g|rfl);{exact h.toC q g t m w};{(rcases hb with hb|hb);{exact absurd hb t};{exact absurd hb.2 w}}}
theorem Qsj {l:Iz} (h:l.Pairwise (·<·)) {i j:Nat} {v:Int} (hi:l[i]?=some v) (hj:l[j]?=some v):i=j:=by have h1:=Qfy h hi;have h2:=Qfy h hj;rw [h1] at h2;omega
theorem StO.out (h:StO N x arcs a Gone l) (hs:x.2.Pairwise (·<·)) (ht:Qal N a b≠1152921504606846976) {k:Nat} (hk:x.2[k]?=some (b:Int)):StO N x arcs a (fun q=>Gone q∨q=b) (l ++[(0,(k:Int),Qal N a b)]):=by refine ⟨fun s hs=>?_,fun q k' g t e=>?_,fun q g t m w=>?_⟩;{(rcases List.mem_append.1 hs with hs|hs);{exact h.snd s hs};{obtain rfl:=List.mem_singleton.1 hs;exact ⟨b,ht,.inl ⟨k,hk,rfl,rfl⟩⟩}};{(rcases g with g|rfl);{obtain ⟨s,h1,h2⟩:=h.outC q k' g t e;exact ⟨s,List.mem_append_left _ h1,h2⟩};{obtain rfl:=Qsj hs hk e;exact ⟨_,List.mem_append_right _ (List.mem_singleton.2 rfl),rfl,rfl⟩}};{(rcases g with g|rfl);{obtain ⟨s,h1,h2⟩:=h.toC q g t m w;exact ⟨s,List.mem_append_left _ h1,h2⟩};{exact absurd (Zm hk) m}}
theorem StO.to (h:StO N x arcs a Gone l)(ht:Qal N a b≠1152921504606846976) (hm:(b:Int) ∉ x.2) (hw:wV N b≠1152921504606846976) {p:Nat} (hp:arcs[p]?=some b):StO N x arcs a (fun q=>Gone q∨q=b) (l ++[(p,-1,Qal N a b+wV N b)]):=by refine ⟨fun s hs=>?_,fun q k' g t e=>?_,fun q g t m w=>?_⟩;{(rcases List.mem_append.1 hs with hs|hs);{exact h.snd s hs};{obtain rfl:=List.mem_singleton.1 hs;exact ⟨b,ht,.inr ⟨hm,hw,(by decide:(-1:Int)<0),hp,rfl⟩⟩}};{(rcases g with g|rfl);{obtain ⟨s,h1,h2⟩:=h.outC q k' g t e;exact ⟨s,List.mem_append_left _ h1,h2⟩};{exact absurd (Zm e) hm}};{(rcases g with g|rfl);{obtain ⟨s,h1,h2⟩:=h.toC q g t m w;exact ⟨s,List.mem_append_left _ h1,h2⟩};{exact ⟨_,List.mem_append_right _ (List.mem_singleton.2 rfl),(by decide:(-1:Int)<0),hp,rfl⟩}}
end
structure Qmf (N:Qak) (l:Iz) (c:Nat) (arcs:List Nat) (f:Nat→Option Nat):Prop where
 at_:∀ a∈arcs,∃ y,N.ar[a]?=some y∧Qad l y.2.1=c
 map:∀ b p,f b=some p↔arcs[p]?=some b
theorem Qmf.nodup {N:Qak}{l:Iz}{c:Nat}{arcs:List Nat}{f:Nat→Option Nat}(h:Qmf N l c arcs f):arcs.Nodup:=by
 rw [List.Nodup,List.pairwise_iff_getElem];intro i j hi hj hij e;have h1:=(h.map (arcs[i]) i).2 (Zg hi);have h2:=(h.map (arcs[i]) j).2 (by rw [Zg hj,e]);rw [h1] at h2;injection h2 with h2
 omega
theorem Qmf.len {N:Qak}{l:Iz}{c:Nat}{arcs:List Nat}{f:Nat→Option Nat}(h:Qmf N l c arcs f):arcs.length≤N.ar.length :=
 Qmu N.ar.length arcs h.nodup (fun a ha=>by obtain ⟨y,hy,_⟩:=h.at_ a ha;exact (Zs hy).1)
theorem Qmf.push {N:Qak}{l:Iz}{c b:Nat}{arcs:List Nat}{f:Nat→Option Nat}(h:Qmf N l c arcs f){y:Tri} (hy:N.ar[b]?=some y) (hc:Qad l y.2.1=c) (hno:f b=none):Qmf N l c (arcs ++[b]) (fun q=>if q=b then some arcs.length else f q):=by refine ⟨fun a ha=>?_,fun q p=>?_⟩;{(rcases List.mem_append.1 ha with ha|ha);{exact h.at_ a ha};{obtain rfl:=List.mem_singleton.1 ha;exact ⟨y,hy,hc⟩}};{by_cases e:q=b;{subst e;rw [if_pos rfl];constructor;{intro e2;injection e2 with e2;subst e2;rw [Yb (Zn _),Yy];rfl};{intro e2;(rcases Nat.lt_trichotomy p arcs.length with h1|h1|h1);{rw [Yc h1] at e2;have:=(h.map q p).2 e2;rw [hno] at this;cases this};{rw [h1]};{rw [Yd (by simp;omega)] at e2;cases e2}}};{rw [if_neg e];rw [h.map];(rcases Nat.lt_trichotomy p arcs.length with h1|h1|h1);{rw [Yc h1]};{subst h1;rw [Yb (Zn _),Yy,Yd (Zn _)];constructor;{intro h;cases h};{intro h;injection h with h;exact absurd h.symm e}};{have h2:(arcs ++[b])[p]?=none:=Yd (by rw [Yp,List.length_singleton];omega);have h3:arcs[p]?=none:=Yd Oo;rw [h2,h3]}}}
theorem Qwj.of {N:Qak}{l:Iz}{c:Nat}{x:Qap}{arcs:List Nat}{f:Nat→Option Nat} {Ls:List (List Stp)} (h:Qmf N l c arcs f) (hl:Ls.length=arcs.length) (hs:∀ (p a:Nat) (t:List Stp),arcs[p]?=some a→Ls[p]?=some t→StO N x arcs a (fun _=>True) t) :
 Qwj N l c x arcs (fun p=>Ls.getD p []):=by have key:∀ p a,arcs[p]?=some a→StO N x arcs a (fun _=>True) (Ls.getD p []):=fun p a ha=>by{have hp:=(Zs ha).1;exact hs p a _ ha (Qbo [] Oo)};exact ⟨h.at_,fun p a ha s hs=>(key p a ha).snd s hs,fun p a b k ha ht hk=>(key p a ha).outC b k trivial ht hk,fun p a b ha ht hm hw=>(key p a ha).toC b trivial ht hm hw⟩
theorem Qwj.fld {N:Qak}(hok:Qar N){l:Iz}{c:Nat}{x:Qap}{arcs:List Nat} {Ls:List (List Stp)} (h:Qwj N l c x arcs (fun p=>Ls.getD p [])):Qti (fun p=>Ls.getD p []) arcs.length x.2.length 4294967296:=by
 have key:∀ p,p<arcs.length→∀ s∈Ls.getD p [],(s.2.1<0→s.1<arcs.length)∧s.2.1<x.2.length∧0≤s.2.2∧s.2.2≤4294967296:=fun p hp s hs=>by
  obtain ⟨b,h1,h2⟩:=h.snd p _ (Zg hp) s hs;have hb:=(Qcs hok _ b).resolve_left h1;rcases h2 with ⟨k,h3,h4,h5⟩|⟨h3,h4,h5,h6,h7⟩
  {have hk:=(Zs h3).1;exact ⟨fun e=>by omega,Oo,Oo,Oo⟩};{obtain ⟨xa,y,_,hy,_⟩:=Qby h1;rw [(Qbw hy).2.2] at h4 h7;have hw:=(Qei (hok.arcs y (Zm hy)).w).resolve_left h4;exact ⟨fun _=>(Zs h6).1,Oo,Oo,Oo⟩}
 exact Kdl
def Rdl (N:Qak)(lb:Iz)(a m:Nat)(v:Int):Prop:=∃ y z,N.ar[a]?=some y∧N.ar[m]?=some z∧Qad lb y.1≠Qad lb y.2.1∧Qad lb z.1=Qad lb y.2.1∧Qad lb z.2.1≠Qad lb y.2.1∧Qhc N (Qgd lb (Qad lb y.2.1)) a m v
structure Qyz (N:Qak) (l lb:Iz) (c:Nat) (x:Qap) (pl:List Nat) (L:Nat→List Stp):Prop where
 at_:∀ a∈pl,Qff N l lb c a
 all:∀ a,Qff N l lb c a→∃ p:Nat,pl[p]?=some a
 nd:pl.Nodup
 snd:∀ (p a:Nat),pl[p]?=some a→∀ s∈L p,∃ m v,Rdl N lb a m v∧v≠1152921504606846976∧((∃ k:Nat,x.2[k]?=some (m:Int)∧s.2.1=(k:Int)∧s.2.2=v)∨((m:Int) ∉ x.2∧wV N m≠1152921504606846976∧s.2.1<0∧pl[s.1]?=some m∧s.2.2=v+wV N m))
 outC:∀ (p a m:Nat) (v:Int) (k:Nat),pl[p]?=some a→Rdl N lb a m v→v≠1152921504606846976→x.2[k]?=some (m:Int)→∃ s∈L p,s.2.1=(k:Int)∧s.2.2=v
 toC:∀ (p a m:Nat) (v:Int),pl[p]?=some a→Rdl N lb a m v→v≠1152921504606846976→(m:Int) ∉ x.2→wV N m≠1152921504606846976→∃ s∈L p,s.2.1<0∧pl[s.1]?=some m∧s.2.2=v+wV N m
section
variable {N:Qak} {l lb:Iz} {c:Nat} {x:Qap} {pl:List Nat} {L:Nat→List Stp}
theorem Qyz.fwd (h:Qyz N l lb c x pl L){i s:Nat} (hi:pl[i]?=some s) {p:Nat} {d:Int} (hr:Rch (StF L) i p d) :
 ∃ a,pl[p]?=some a∧Rch (fun a m d=>StC N lb x a m d∧Qff N l lb c a∧Qff N l lb c m) s a d:=by
 induction hr with
 | start=>exact ⟨s,hi,.start⟩
 | @step p q d e _ h2 ih =>
  obtain ⟨a,ha,hr⟩:=ih;obtain ⟨t,ht,h3,rfl,rfl⟩:=h2;obtain ⟨m,v,⟨y,z,hy,hz,k1,k2,k3,k4⟩,h5,h6⟩:=h.snd p a ha t ht;rcases h6 with ⟨k,_,h6,_⟩|⟨h6,h7,_,h8,h9⟩
  {omega};{rw [(Qbw hz).2.2] at h7 h9;exact ⟨m,h8,hr.step ⟨⟨v,⟨y,z,hy,hz,k1,k2,k3,h7,h9,k4⟩,h5,h6⟩,h.at_ a (Zm ha),h.at_ m (Zm h8)⟩⟩}
theorem Qyz.bwd (h:Qyz N l lb c x pl L){i s:Nat} (hi:pl[i]?=some s) {a:Nat} {d:Int} (hr:Rch (fun a m d=>StC N lb x a m d∧Qff N l lb c a∧Qff N l lb c m) s a d) :
 ∃ p:Nat,pl[p]?=some a∧Rch (StF L) i p d:=by
 induction hr with
 | start=>exact ⟨i,hi,.start⟩
 | @step a m d e _ h2 ih =>obtain ⟨p,ha,hr⟩:=ih;obtain ⟨⟨v,⟨y,z,hy,hz,k1,k2,k3,k4,rfl,k5⟩,h5,h6⟩,_,_⟩:=h2;have hw:=(Qbw hz).2.2;obtain ⟨t,ht,h10,h11,h12⟩:=h.toC p a m v ha ⟨y,z,hy,hz,k1,k2,k3,k5⟩ h5 h6 (by rw [hw];exact k4);exact ⟨t.1,h11,hr.step ⟨t,ht,h10,rfl,by rw [h12,hw]⟩⟩
theorem rchK_end {N:Qak}{l lb:Iz}{c a b:Nat}{d:Int}(hb:Qff N l lb c b) (hr:Rch (StK N l lb c) a b d):a=b∧d=0:=by
 cases hr with
 | start=>exact ⟨rfl,rfl⟩
 | step _ h2 =>obtain ⟨y,hy,h3,_⟩:=hb;obtain ⟨t1,t2,_⟩:=Qbw hy;have:=h2.2;rw [t1,t2] at this;exact absurd this h3
theorem Qyz.entry (h:Qyz N l lb c x pl L)(hok:Qar N)(hl:l.length=N.vs.length)(hb:lb.length=N.vs.length)(hn:Qeh lb l) (hx:(Qaf N.ar l)[c]?=some x)
 (hE:∀ a m y z,Qff N l lb c a→N.ar[a]?=some y→N.ar[m]?=some z→Qad lb z.1=Qad lb y.2.1→Qad lb z.2.1≠Qad lb y.2.1→∃ v,Qhc N (Qgd lb (Qad lb y.2.1)) a m v)
 {i s k t:Nat} (hi:pl[i]?=some s) (hk:x.2[k]?=some (t:Int)) {v:Int} (hv:Lst (Qwl (StF L) (OuF L) i k) v):Qhc N (Qgd l c) s t v:=by have hs:=h.at_ s (Zm hi);have hinj:∀ (b k':Nat),x.2[k']?=some (b:Int)→k'=k→b=t:=fun b k' h1 e=>by{subst e;rw [hk] at h1;have:=Yv h1;omega};have hN:=nested hok hl hb hn hx hE (Zm hk);have h1:Lst (Qwl (fun a m d=>StC N lb x a m d∧Qff N l lb c a∧Qff N l lb c m) (fun a t' d=>OuC N lb x a t' d∧Qff N l lb c a∧t'=t) s t) v:=by{refine hv.conv (fun d hd=>?_) (fun d hd=>?_);{obtain ⟨p,d1,d2,h1,⟨u,hu,h2,h3⟩,rfl⟩:=hd;obtain ⟨a,ha,hr⟩:=h.fwd hi h1;obtain ⟨m,v,⟨y,z,hy,hz,k1,k2,k3,k4⟩,h5,h6⟩:=h.snd p a ha u hu;(rcases h6 with ⟨k',h6,h7,h8⟩|⟨_,_,h6,_⟩);{have hb:=hinj m k' h6 Oo;subst hb;refine ⟨_,⟨a,d1,v,hr,⟨⟨⟨y,z,hy,hz,k1,k2,k3,k4⟩,h5,Zm hk⟩,h.at_ a (Zm ha),rfl⟩,rfl⟩,Oo⟩};{omega}};{obtain ⟨a,d1,d2,h1,⟨⟨⟨y,z,hy,hz,k1,k2,k3,k4⟩,h5,h6⟩,_,_⟩,rfl⟩:=hd;obtain ⟨p,ha,hr⟩:=h.bwd hi h1;obtain ⟨u,hu,h7,h8⟩:=h.outC p a t d2 k ha ⟨y,z,hy,hz,k1,k2,k3,k4⟩ h5 hk;exact ⟨_,⟨p,d1,_,hr,⟨u,hu,h7,rfl⟩,rfl⟩,Oo⟩}};have h2:=hN.same (fun p q d _=>Classical.em _) hs h1;refine h2.conv (fun d hd=>?_) (fun d hd=>?_);{obtain ⟨p,d1,d2,g1,g2,rfl⟩:=hd;exact ⟨_,⟨p,d1,d2,g1,g2.1,rfl⟩,Int.le_refl _⟩};{obtain ⟨p,d1,d2,g1,g2,rfl⟩:=hd;exact ⟨_,⟨p,d1,d2,g1,⟨g2,rfl⟩,rfl⟩,Int.le_refl _⟩}
theorem Qyz.bound (h:Qyz N l lb c x pl L)(hok:Qar N)(hl:l.length=N.vs.length)(hb:lb.length=N.vs.length)(hn:Qeh lb l) (hx:(Qaf N.ar l)[c]?=some x)
 (hE:∀ a m y z,Qff N l lb c a→N.ar[a]?=some y→N.ar[m]?=some z→Qad lb z.1=Qad lb y.2.1→Qad lb z.2.1≠Qad lb y.2.1→∃ v,Qhc N (Qgd lb (Qad lb y.2.1)) a m v) (t:Nat) (ht:(t:Int)∈x.2)
 {i s:Nat} (hi:pl[i]?=some s) (p:Nat) (d:Int) (hr:Rch (StF L) i p d):∃ e,Rch (StF L) i p e∧e≤MB:=by have hN:=nested hok hl hb hn hx hE ht;obtain ⟨a,ha,h1⟩:=h.fwd hi hr;obtain ⟨e,h2,h3⟩:=Qjg hok a d (hN.up h1);obtain ⟨a',c1,c2,_,g1,g2,g3⟩:=hN.down (fun p q d _=>Classical.em _) (h.at_ s (Zm hi)) h2;obtain ⟨rfl,rfl⟩:=rchK_end (h.at_ a (Zm ha)) g2;obtain ⟨q,hq,h4⟩:=h.bwd hi g1;have:q=p:=(List.getElem?_inj (Zs hq).1 h.nd).1 (hq.trans ha.symm);subst this;exact ⟨c1,h4,Oo⟩
theorem Qyz.fld (h:Qyz N l lb c x pl L)(hok:Qar N):Qti L pl.length x.2.length 70377334112256:=by
 have key:∀ p,p<pl.length→∀ s∈L p,(s.2.1<0→s.1<pl.length)∧s.2.1<x.2.length∧0≤s.2.2∧s.2.2≤70377334112256:=fun p hp s hs=>by
  obtain ⟨m,v,⟨y,z,hy,hz,k1,k2,k3,k4⟩,h5,h6⟩:=h.snd p _ (Zg hp) s hs;have hv:=(k4.bd hok).resolve_left h5;rcases h6 with ⟨k,h3,h4,h5⟩|⟨h3,h4,h5,h6,h7⟩
  {have hk:=(Zs h3).1;exact ⟨fun e=>by omega,Oo,Oo,Oo⟩};{rw [(Qbw hz).2.2] at h4 h7;have hw:=(Qei (hok.arcs z (Zm hz)).w).resolve_left h4;exact ⟨fun _=>(Zs h6).1,Oo,Oo,Oo⟩}
 exact Kdl
end
structure LeW (W0 W:World) (K:Nat→Prop) (cb db gh n:Nat) (cl:Iz) (dn:List Bool) (hp:Nat→Option Int):Prop where
 kept:Qaz K W0 W
 size:W0.heap.size≤W.heap.size
 b0:Blk W cb 2 (Qbr cl)
 dd:Blk W db 4 (Qdy dn)
 hh:Qcx W (fun b=>K b∨b=cb∨b=db) gh n hp
 ld:dn.length=n
 kl:∀ b,K b→b<W0.heap.size
 kb:¬K cb∧¬K db∧cb≠db
section
variable {W0 W W':World} {K:Nat→Prop} {cb db gh n:Nat} {cl:Iz} {dn:List Bool} {hp hp':Nat→Option Int}
theorem LeW.below (h:LeW W0 W K cb db gh n cl dn hp)(hb:Bw W W'):LeW W0 W' K cb db gh n cl dn hp :=
 ⟨h.kept.trans (Qaz.below hb) h.size,Yx h.size hb.size,h.b0.below hb h.b0.lt,h.dd.below hb h.dd.lt,h.hh.more hb (fun b hb'=>⟨Yu (h.hh.lt b hb') hb.size,.inl hb'⟩),h.ld,h.kl,h.kb⟩
theorem LeW.row (h:LeW W0 W K cb db gh n cl dn hp){i:Nat}{x:Int}{cl':Iz}(e:cl.set i x=cl'):LeW W0 (W.setCell ⟨cb,i,none⟩ (.int .i64 x)) K cb db gh n cl' dn hp :=
 ⟨h.kept.trans (Qaz.set _ _ _ _ h.kb.1) h.size,by simpa [World.setCell] using h.size,h.b0.setI e,h.dd.far_ (fun e=>h.kb.2.2 e.symm) _,h.hh.set (.inr (.inl rfl)) _,h.ld,h.kl,h.kb⟩
theorem LeW.mark (h:LeW W0 W K cb db gh n cl dn hp){p:Nat}:LeW W0 (W.setCell ⟨db,p,none⟩ (.bool true)) K cb db gh n cl (dn.set p true) hp :=
 ⟨h.kept.trans (Qaz.set _ _ _ _ h.kb.2.1) h.size,by simpa [World.setCell] using h.size,h.b0.far_ h.kb.2.2 _,h.dd.setB rfl,h.hh.set (.inr (.inr rfl)) _,by rw [Yq];exact h.ld,h.kl,h.kb⟩
theorem LeW.put (h:LeW W0 W K cb db gh n cl dn hp) (hh:Qcx W' (fun b=>K b∨b=cb∨b=db) gh n hp') (ha:Aft (fun b=>K b∨b=cb∨b=db) W W'):LeW W0 W' K cb db gh n cl dn hp' :=
 ⟨h.kept.trans (ha.kept.mono (fun _ hb=>.inl hb)) h.size,Yx h.size ha.size,(ha.kept cb (.inr (.inl rfl)) h.b0.lt).trans h.b0,(ha.kept db (.inr (.inr rfl)) h.dd.lt).trans h.dd,hh,h.ld,h.kl,h.kb⟩
end
structure LeR (V:World) (c1 c2 c3 c4 cb db gh n off outs cap:Nat) (sum:Int):Prop where
 r0:V.cell? ⟨c1,0,none⟩=some (.slice (some ⟨cb,off,none⟩) outs cap)
 s0:V.cell? ⟨c2,0,none⟩=some (.int .i64 sum)
 d0:V.cell? ⟨c3,0,none⟩=some (.slice (some ⟨db,0,none⟩) n n)
 h0:V.cell? ⟨c4,0,none⟩=some (.pointer (some ⟨gh,0,none⟩))
theorem LeR.le {V W:World}{c1 c2 c3 c4 cb db gh n off outs cap:Nat}{sum:Int}(h:LeR V c1 c2 c3 c4 cb db gh n off outs cap sum)(hl:Le V W):LeR W c1 c2 c3 c4 cb db gh n off outs cap sum:=⟨hl _ _ h.r0,hl _ _ h.s0,hl _ _ h.d0,hl _ _ h.h0⟩
def mid (pre row post:Iz):Iz:=pre ++row ++post
theorem Rgr {pre row post:Iz}{k:Nat}{z:Int} (h:row[k]?=some z):(mid pre row post)[pre.length+k]?=some z:=by unfold mid;have hk:=(Zs h).1;rw [List.append_assoc,Yb Oo,Yc Oo,show pre.length+k-pre.length=k by omega,h]
theorem mid_set {pre row post:Iz}{k:Nat}(z:Int)(h:k<row.length):(mid pre row post).set (pre.length+k) z=mid pre (row.set k z) post:=by unfold mid;rw [List.append_assoc,List.set_append_right _ _ Oo,List.set_append_left _ _ Oo,show pre.length+k-pre.length=k by omega,List.append_assoc]
theorem Rfy (W0 w:World)(K:Nat→Prop)(c1 c2 c3 c4 cb db gh n off outs cap:Nat)(pre row post:Iz)(dn:List Bool)(hp:Nat→Option Int)(sum:Int)(s:Stp)
 (hR:LeR (msk W0 K) c1 c2 c3 c4 cb db gh n off outs cap sum) (hW:LeW W0 w K cb db gh n (mid pre row post) dn hp) (hpre:pre.length=off) (hrow:row.length=outs)
 (ho:s.2.1<outs) (ht:s.2.1<0→s.1<n) (h0:0≤sum) (h1:0≤s.2.2) (h2:sum+s.2.2≤1000000000000000000) :
 Calls prog 186 #[.agg #[.int .i64 s.1,.int .i64 s.2.1,.int .i64 s.2.2],.pointer (some ⟨c1,0,none⟩),.pointer (some ⟨c2,0,none⟩),.pointer (some ⟨c3,0,none⟩),.pointer (some ⟨c4,0,none⟩)] w
  fun e w'=>e=.returned (.tuple #[])∧LeW W0 w' K cb db gh n (mid pre (Qcw dn sum (row,hp) s).1 post) dn (Qcw dn sum (row,hp) s).2∧Aft K w w':=by
 obtain ⟨to,out,d⟩:=s;simp only at ho ht h1 h2 ⊢;have hRw:=hR.le (Le.kept hW.kept);have e1:IntKind.i64.wrap (sum+d)=sum+d:=IntWalk.i64_in _ Oo;have HKL:=Zh (show ∀ b,K b→b<w.heap.size from fun b hb=>by have:=hW.kl b hb;have:=hW.size;omega);by_cases hout:0≤out;{obtain ⟨k,rfl⟩:∃ k:Nat,out=(k:Int):=⟨out.toNat,Oo⟩;(have hk:k<row.length:=Oo);obtain ⟨z,hz⟩:∃ z,row[k]?=some z:=⟨_,Zg hk⟩;have hst:Qcw dn sum (row,hp) (to,(k:Int),d)=(row.set k (min z (sum+d)),hp):=by{unfold Qcw;simp [hz]};rw [hst];have HST:=Zh (mid_set (pre:=pre) (post:=post) (min z (sum+d)) hk);have HMG:=Zh (Rgr (pre:=pre) (post:=post) hz);have HW:=Zh hW;have HR:=Zh hRw;rw [hpre] at HST HMG;clear hst hz hR hW hRw hpre hrow;(go_enter func186,ntmps186);(go_wp2_with fail);(refine Qai ?_;intro w1 hw1);(have hb1:Bw w w1:=by rw [hw1];exact Qag);(have hX:Blk w1 w.heap.size 297 #[.int .i64 to,.int .i64 k,.int .i64 d]:=by rw [hw1];exact Blk.new _ _ _);have HW1:=Zh (HW.o.below hb1);have HR1:=Zh (HR.o.le (Le.below hb1));have HA1:=Zh (show Aft K w w1 from Aft.below hb1 HKL.o);(have x1:w1.cell? ⟨w.heap.size,1,none⟩=some (.int .i64 k):=Zq hX;have x2:w1.cell? ⟨w.heap.size,2,none⟩=some (.int .i64 d):=Zq hX;have r0:=HR1.o.r0;have s0:=HR1.o.s0;have cz:=HW1.o.b0.cellI HMG.o;have cf:=HW1.o.b0.frozen (off+k);have i1:0≤(k:Int):=Oo);(have i2:(k:Int)<outs:=Oo);clear hw1 hX hb1;refine Qbk 14 (S:=fun V=>V=w1.drew) Kf rfl (fun _=>?_);refine tkK 0 9 (h:=⟨_,tv,?_⟩);simp only [pE,List.set];refine tkF 1 10 (h:=⟨_,tv,?_⟩);simp only [pE,List.set];refine tkK 2 11 (h:=⟨_,tv,?_⟩);simp only [pE,List.set];refine tkK 3 12 (h:=⟨_,tv,?_⟩);simp only [pE,List.set];refine tkF 4 13 (h:=⟨_,tv,?_⟩);simp only [pE,List.set];refine tkK 5 14 (h:=⟨_,tv,?_⟩);simp only [pE,List.set];refine tkF 6 15 (h:=⟨_,tv,?_⟩);simp only [pE,List.set];refine tkK 7 16 (h:=⟨_,tv,?_⟩);simp only [pE,List.set];refine tkK 8 17 (h:=⟨_,tv,?_⟩);simp only [pE,List.set];refine tkF 9 18 (h:=⟨_,tv,?_⟩);simp only [pE,List.set];refine tkK 10 19 (h:=⟨_,tv,?_⟩);simp only [pE,List.set];refine tkF 11 20 (h:=⟨_,tv,?_⟩);simp only [pE,List.set];refine tkF 12 21 (h:=⟨_,tv,?_⟩);simp only [pE,List.set];refine tkF 13 22 (h:=⟨_,tv,?_⟩);simp only [pE,List.set];refine Qcb (k:=14) Kf rfl (fun K hK=>?_);go_simp;refine hK.out _ _ ?_;clear hK K;refine Qbv Kf ?_ _;(try rw [show (if sum+d<z then sum+d else z)=min z (sum+d) by split <;> omega]);(go_wp2_with fail);go_end0;exact ⟨rfl,(HW1.o.row HST.o).below (Zr _ _).drew,(HA1.o.set HW1.o.kb.1 _).drew⟩}
 · have hst:Qcw dn sum (row,hp) (to,out,d)=(row,if dn.getD to false=false then Qem hp to (sum+d) else hp):=by{unfold Qcw;simp only [if_neg hout]};(rw [hst];have htn:to<n:=ht Oo);(have HW:=Zh hW;have HR:=Zh hRw;have htl:to<dn.length:=by rw [hW.ld];exact htn);have HPU:=Zh (fun V (hV:LeW W0 V K cb db gh n (mid pre row post) dn hp)=>Qgk V hp hV.hh to htn (sum+d) Oo Oo);obtain ⟨m,hm⟩:∃ m,dn.getD to false=m:=⟨_,rfl⟩;have HM:=Zh (show dn[to]?=some m from hm▸Qbo false htl);(rw [hm];have c2f:=fun ob=>Zc (((Zr w.heap.size w)).alloc (Zn _) ob) (Zn _) hRw.s0);(have c3f:=fun ob=>Zc (((Zr w.heap.size w)).alloc (Zn _) ob) (Zn _) hRw.d0);(have c4f:=fun ob=>Zc (((Zr w.heap.size w)).alloc (Zn _) ob) (Zn _) hRw.h0);(have cdf:=fun ob=>Zc (((Zr w.heap.size w)).alloc (Zn _) ob) (Zn _) (hW.dd.cellB (i:=to) HM.o));(have i1:0≤(to:Int):=Oo);(have i2:(to:Int)<n:=Oo);clear hst hR hW hRw hpre hrow hm ho htl
   cases m with
   | true =>(go_enter func186,ntmps186);(go_wp2_with fail);go_end0;exact ⟨rfl,HW.o.below Qag,Aft.below Qag HKL.o⟩
   | false =>(go_enter func186,ntmps186);(go_wp2_with fail);(refine Qab ?_;intro w1 hw1);(have hb1:Bw w w1:=by rw [hw1];exact Qag);(clear hw1;with_reducible refine (HPU.o w1 (HW.o.below hb1)).mono ?_);rintro e w2 ⟨rfl,hh,ha⟩;have HW2:=Zh ((HW.o.below hb1).put hh ha);have HA2:=Zh ((Aft.below hb1 HKL.o).trans (ha.mono (fun _ hb=>.inl hb)));clear hh ha hb1;(go_wp2_with fail);go_end0;exact ⟨rfl,by simpa using HW2.o,HA2.o⟩
theorem Le.mskBelow {w W:World}{K:Nat→Prop}(h:Bw w W)(hK:∀ b,b<w.heap.size→K b):Le w (msk W K):=fun _ _ hc=>Qat.2 ⟨hK _ (Qaj hc),Zc h (Zn _) hc⟩
theorem Qgo {W:World}{K:Nat→Prop}{b o:Nat}{v:Value}(h:W.cell? ⟨b,o,none⟩=some v)(hK:K b):(msk W K).cell? ⟨b,o,none⟩=some v:=Qat.2 ⟨hK,h⟩
def doneW (db:Nat)(W:World):Nat:=match W.heap[db]? with|some (.cells cs _ _)=>cs.toList.countP (fun v=>match v with|.bool true=>true|_=>false)|_=>0
theorem Qhu {db:Nat}{W:World}{t:TypeId}{dn:List Bool} (h:Blk W db t (Qdy dn)):doneW db W=dn.countP (fun b=>b):=by
 unfold doneW;rw [show W.heap[db]?=some (.cells (Qdy dn) t (0,0)) from h];simp only [Qdy,List.toList_toArray,List.countP_map];congr 1
 funext b
 cases b <;> rfl
theorem Qcz:∀ {l:List Bool}{p:Nat},p<l.length→l.getD p false=false→(l.set p true).countP (fun b=>b)=l.countP (fun b=>b)+1
 | [],p,h,_=>by simp at h
 | b::l,0,_,h=>by
  have:b=false:=by simpa using h
  subst this;simp
 | b::l,p+1,h,h2=>by
  have:=Qcz (l:=l) (p:=p) (by simpa using h) (by simpa using h2);rw [Yk,List.countP_cons,List.countP_cons,this];omega
theorem Qht (l:List Bool):l.countP (fun b=>b)≤l.length:=List.countP_le_length
theorem Qki (n:Nat)(hn:n≤1000000000)(W:World):(Instr.makeSlice 123 (.int .i64 (n:Int)) (.int .i64 (n:Int))).run prog W=.ok (.slice (some ⟨W.heap.size,0,none⟩) n n) (W.alloc (.cells (Qbg (.bool false) n) 4)) :=
 Qcv (P:=prog) 123 4 (.bool false) 1 Kf underlying123 rfl n Oo Oo .i64 .i64 W
