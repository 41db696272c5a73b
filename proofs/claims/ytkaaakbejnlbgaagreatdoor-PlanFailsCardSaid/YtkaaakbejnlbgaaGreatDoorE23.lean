/- Qbl of the proof: QSv, QSort, QList, QListW, QJn1, QJn4, QFits, QJnP, QJnQ. -/
import Derived.Test.YtkaaakbejnlbgaaGreatDoorE21
import Derived.Test.YtkaaakbejnlbgaaGreatDoorD22
import Derived.Test.YtkaaakbejnlbgaaGreatDoorShelf4
import Derived.Lib.SliceRun
set_option maxHeartbeats 4000000
namespace Go.Proofs.YtkaaakbejnlbgaaGreatDoor
open Go.RowKit Go.Sort Go.Proofs.Tryz
attribute [local go_sem ↓] Go.wp_at_zero Go.wp_at_succ
def Qjq (a b:Int):Int:=if a<b then -1 else if b<a then 1 else 0
theorem Quk (a:Int)(w:World):Calls prog 144 #[.int .i64 a] w fun e w'=>e=.returned (.bool false)∧w=w':=by
 go_enter func144,ntmps144
 go_wp2;go_ret;exact ⟨Qao Sm,rfl⟩
theorem Qiy (a b:Int)(w:World):Calls prog 90 #[.int .i64 a,.int .i64 b] w fun e w'=>e=.returned (.int .i64 (Qjq a b))∧w=w':=by
 by_cases h1:a<b
 {(go_enter func90,ntmps90);(go_wp2_with (go_at_call 144;(with_reducible refine (Quk _ _).mono ?_);rintro e w' ⟨rfl,rfl⟩));go_ret;exact ⟨Qav (by simp [Qjq,h1]),rfl⟩}
 · by_cases h2:b<a
   all_goals
    go_enter func90,ntmps90
    go_wp2_with (go_at_call 144;(with_reducible refine (Quk _ _).mono ?_);rintro e w' ⟨rfl,rfl⟩)
    go_ret
    exact ⟨Qav (by unfold Qjq;rw [if_neg Oo];first|rw [if_pos h2]|rw [if_neg Oo]),rfl⟩
theorem Qnx (a:Int)(w:World):Calls prog 195 #[.int .i64 a] w fun e w'=>e=.returned (.bool false)∧w=w':=by
 go_enter func195,ntmps195
 go_wp2;go_ret;exact ⟨Qao Sm,rfl⟩
theorem Qrl (a b:Int)(w:World):Calls prog 139 #[.int .i64 a,.int .i64 b] w fun e w'=>e=.returned (.int .i64 (Qjq a b))∧w=w':=by
 by_cases h1:a<b
 {(go_enter func139,ntmps139);(go_wp2_with (go_at_call 195;(with_reducible refine (Qnx _ _).mono ?_);rintro e w' ⟨rfl,rfl⟩));go_ret;exact ⟨Qav (by simp [Qjq,h1]),rfl⟩}
 · by_cases h2:b<a
   all_goals
    go_enter func139,ntmps139
    go_wp2_with (go_at_call 195;(with_reducible refine (Qnx _ _).mono ?_);rintro e w' ⟨rfl,rfl⟩)
    go_ret
    exact ⟨Qav (by unfold Qjq;rw [if_neg Oo];first|rw [if_pos h2]|rw [if_neg Oo]),rfl⟩
theorem Qjr (a b:Int):Qjq a b<0↔a<b:=by unfold Qjq;split;{simp [*]};{split <;> omega}
theorem Qtv (a b:Int):Qjq a b=0↔a=b:=by unfold Qjq;split;{constructor <;> intro <;> omega};{split <;> constructor <;> intro <;> omega}
def or3 (a b c:Int):Int:=if a≠0 then a else if b≠0 then b else c
theorem or3_any (g c:Nat)(x y z:Int)(w:World) (h0:w.cell? ⟨g,0,none⟩=some (.int .i64 x)) (h1:w.cell? ⟨g,1,none⟩=some (.int .i64 y)) (h2:w.cell? ⟨g,2,none⟩=some (.int .i64 z)) :
 Calls prog 138 #[.slice (some ⟨g,0,none⟩) 3 c] w fun e w'=>e=.returned (.int .i64 (or3 x y z))∧w=w':=by by_cases hx:x=0;{by_cases hy:y=0;{by_cases hz:z=0;{subst hx;subst hy;subst hz;(go_enter func138,ntmps138);go_wp2;refine wp_loop_rounds 4 ?_;rw [rounds_succ];go_wp2;rw [rounds_succ];go_wp2;rw [rounds_succ];go_wp2;rw [rounds_succ];go_wp2;exact Kax};{(have hz':(z != 0)=true:=by simpa using hz);have HZ:=Zh hz;clear hz;subst hx;subst hy;(go_enter func138,ntmps138);go_wp2;refine wp_loop_rounds 3 ?_;rw [rounds_succ];go_wp2;rw [rounds_succ];go_wp2;rw [rounds_succ];go_wp2;go_ret;exact ⟨Qav (by simp [or3]),rfl⟩}};{(have hy':(y != 0)=true:=by simpa using hy);have HY:=Zh hy;clear hy;subst hx;(go_enter func138,ntmps138);go_wp2;refine wp_loop_rounds 2 ?_;rw [rounds_succ];go_wp2;rw [rounds_succ];go_wp2;go_ret;exact ⟨Qav (by have:=HY.o;simp [or3,this]),rfl⟩}};{(have hx':(x != 0)=true:=by simpa using hx);have HX:=Zh hx;clear hx;(go_enter func138,ntmps138);go_wp2;refine wp_loop_rounds 1 ?_;rw [rounds_succ];go_wp2;go_ret;exact ⟨Qav (by have:=HX.o;simp [or3,this]),rfl⟩}
abbrev Sv:=Int×Int×Int
def svCf (a b:Sv):Int:=or3 (Qjq b.2.2 a.2.2) (Qjq a.1 b.1) (Qjq a.2.1 b.2.1)
abbrev Qgu (a:Sv):List Value:=[.int .i64 a.1,.int .i64 a.2.1,.int .i64 a.2.2]
theorem Rgc (a b:Sv)(w:World):Calls prog 137 #[.agg (Qgu a).toArray,.agg (Qgu b).toArray] w fun e w'=>e=.returned (.int .i64 (svCf a b))∧∃ q os',w'=grow (w.drewN q) os':=by
 obtain ⟨i,j,s⟩:=a;obtain ⟨i',j',s'⟩:=b;have H1:=Zh (show ∀ W,Calls prog 139 #[.int .i64 s',.int .i64 s] W fun e w'=>e=.returned (.int .i64 (Qjq s' s))∧W=w' from Qrl s' s);have H2:=Zh (show ∀ W,Calls prog 90 #[.int .i64 i,.int .i64 i'] W fun e w'=>e=.returned (.int .i64 (Qjq i i'))∧W=w' from Qiy i i');have H3:=Zh (show ∀ W,Calls prog 90 #[.int .i64 j,.int .i64 j'] W fun e w'=>e=.returned (.int .i64 (Qjq j j'))∧W=w' from Qiy j j');have HO:=Zh or3_any;have HF:=Zh (show svCf (i,j,s) (i',j',s')=or3 (Qjq s' s) (Qjq i i') (Qjq j j') from rfl);generalize Qjq s' s=x at *;generalize Qjq i i'=y at *;generalize Qjq j j'=z at *;go_enter func137,ntmps137
 go_wp2_with fail
 (refine Qai ?_;intro w1 hw1);have hw1':=hw1;have hB1:Blk w1 w.heap.size 161 #[.int .i64 i,.int .i64 j,.int .i64 s]:=by rw [hw1];exact Blk.alloc (Blk.new _ _ _) _
 have hB2:Blk w1 (w.heap.size+1) 161 #[.int .i64 i',.int .i64 j',.int .i64 s']:=by rw [hw1];exact Blk.new' _ _ _ Sm
 have HW:=Zh hw1;clear hw1 hw1'
 have HSX:=Zh (show ∀ V,Bw w1 V→V.cell? ⟨w.heap.size,0,none⟩=some (.int .i64 i)∧V.cell? ⟨w.heap.size,1,none⟩=some (.int .i64 j)∧V.cell? ⟨w.heap.size,2,none⟩=some (.int .i64 s) ∧
  V.cell? ⟨w.heap.size+1,0,none⟩=some (.int .i64 i')∧V.cell? ⟨w.heap.size+1,1,none⟩=some (.int .i64 j')∧V.cell? ⟨w.heap.size+1,2,none⟩=some (.int .i64 s') from
  fun V hV=>by
   have h1:=hB1.below hV hB1.lt;have h2:=hB2.below hV hB2.lt;exact ⟨Zq h1,Zq h1,Zq h1,Zq h2,Zq h2,Zq h2⟩)
 refine wp_region_held_drew (S:=fun V=>Bw w1 V) Kf Qag (fun _=>?_);refine tzd 0 5 ?_;refine tzd 5 10 ?_;refine tzd 10 15 ?_;refine Zk 4 (fun K hK=>?_);go_simp;go_at_call 139
 with_reducible refine (H1.o _).mono ?_
 rintro e w' ⟨rfl,rfl⟩;go_wp2_with fail
 refine hK.out _ _ Qag (fun _=>?_);clear hK K;refine Zk 9 (fun K hK=>?_);go_simp;go_at_call 90
 with_reducible refine (H2.o _).mono ?_
 rintro e w' ⟨rfl,rfl⟩;go_wp2_with fail
 refine hK.out _ _ Qag (fun _=>?_);clear hK K;refine Zk 14 (fun K hK=>?_);go_simp;go_at_call 90
 with_reducible refine (H3.o _).mono ?_
 rintro e w' ⟨rfl,rfl⟩;go_wp2_with fail
 refine hK.out _ _ Qag (fun _=>?_);clear hK K;refine Zk 15 (fun K hK=>?_);go_simp;refine hK.out _ _ Qag (fun _=>?_);clear hK K;refine Zk 16 (fun K hK=>?_);go_simp;go_at_call 138
 have hB3:=(Blk.new w1 3 #[.int .i64 x,.int .i64 y,.int .i64 z]).drew;have hO1:=HO.o w1.heap.size 3 x y z _ (Zq hB3) (Zq hB3) (Zq hB3);with_reducible refine hO1.mono ?_
 rintro e w' ⟨rfl,rfl⟩;go_wp2_with fail
 refine hK.out _ _ Qag (fun _=>?_);clear hK K;refine tz 17 4 ?_;refine Zd ?_;go_wp2_with fail
 go_ret;refine ⟨Qav HF.o.symm,?_⟩;rw [HW.o];exact ⟨1,_,by rw [alloc_eq_grow,alloc_eq_grow,alloc_eq_grow,grow_grow,grow_grow];rfl⟩
open Go.Lib Go.Shelf
def RdS (w:World)(A:Oz)(n:Nat)(L:List Sv):Prop :=
 L.length=n∧∀ i x,L[i]?=some x→∃ b o,A=some ⟨b,o,none⟩∧w.cell? ⟨b,o+i*3,none⟩=some (.int .i64 x.1)∧w.cell? ⟨b,o+i*3+1,none⟩=some (.int .i64 x.2.1)∧w.cell? ⟨b,o+i*3+2,none⟩=some (.int .i64 x.2.2)
theorem RdS.below {w w':World}{A:Oz}{n:Nat}{L:List Sv}(h:RdS w A n L)(hb:RowKit.Below w.heap.size w w'):RdS w' A n L :=
 ⟨h.1,fun i x hx=>by obtain ⟨b,o,e,h1,h2,h3⟩:=h.2 i x hx;exact ⟨b,o,e,Zc hb (Zn _) h1,Zc hb (Zn _) h2,Zc hb (Zn _) h3⟩⟩
theorem RdS.at_ {w:World}{A:Oz}{n i:Nat}{L:List Sv}(h:RdS w A n L)(hi:i<n) :
 ∃ b o I J S,A=some ⟨b,o,none⟩∧L[i]?=some (I,J,S)∧w.cell? ⟨b,o+i*3,none⟩=some (.int .i64 I)∧w.cell? ⟨b,o+i*3+1,none⟩=some (.int .i64 J)∧w.cell? ⟨b,o+i*3+2,none⟩=some (.int .i64 S):=by
 have hl:i<L.length:=by rw [h.1];exact hi
 obtain ⟨b,o,e,h1,h2,h3⟩:=h.2 i _ (Zg hl);exact ⟨b,o,_,_,_,e,Zg hl,h1,h2,h3⟩
def Qck:List Sv→List Value
 | []=>[]
 | p::t=>.int .i64 p.1::.int .i64 p.2.1::.int .i64 p.2.2::Qck t
theorem Qih:∀ l:List Sv,(Qck l).length=l.length*3
 | []=>rfl
 | _::t=>by simp [Qck,Qih t];omega
theorem Qqu:∀ l m:List Sv,Qck (l ++m)=Qck l ++Qck m
 | [],_=>rfl
 | p::t,m=>by simp [Qck,Qqu t m]
theorem Qlo:∀ {l:List Sv}{i:Nat}{p:Sv},l[i]?=some p→(Qck l)[i*3]?=some (.int .i64 p.1)∧(Qck l)[i*3+1]?=some (.int .i64 p.2.1)∧(Qck l)[i*3+2]?=some (.int .i64 p.2.2)
 | [],i,p,h=>by simp at h
 | q::t,0,p,h=>by simp at h;subst h;simp [Qck]
 | q::t,i+1,p,h=>by have:=Qlo (l:=t) (i:=i) (p:=p) (by simpa using h);rw [show (i+1)*3=i*3+1+1+1 by omega];simpa [Qck] using this
theorem Rcv (l:List Sv):∀ u∈Qck l,u.oneCell'=true:=by
 induction l with
 | nil=>intro u hu;cases hu
 | cons p t ih =>
  intro u hu;simp only [Qck,List.mem_cons] at hu;rcases hu with rfl|rfl|rfl|hu
  {rfl};{rfl};{rfl};{exact ih u hu}
theorem Rds.rdS {w:World}{n:Nat}{A:Oz}{l:List Sv} (h:Rds w 3 A n (Qck l)):RdS w A n l :=
 ⟨by have:=h.1;rw [Qih] at this;omega,fun i p hp=>by
  obtain ⟨h1,h2,h3⟩:=Qlo hp;obtain ⟨b,o,e,c1⟩:=h.2 _ _ h1;obtain ⟨b',o',e',c2⟩:=h.2 _ _ h2;obtain ⟨b2,o2,e2,c3⟩:=h.2 _ _ h3;rw [e] at e' e2;cases e';cases e2
  exact ⟨b,o,e,c1,by rw [Nat.add_assoc];exact c2,by rw [Nat.add_assoc];exact c3⟩⟩
def Qtf (a b:Sv):Prop:=b.2.2<a.2.2∨(a.2.2=b.2.2∧(a.1<b.1∨(a.1=b.1∧a.2.1<b.2.1)))
instance svLtDec (a b:Sv):Decidable (Qtf a b):=by unfold Qtf;infer_instance
theorem Rao (a b:Sv):svCf a b<0↔Qtf a b:=by unfold svCf Qtf or3;have h1:=Qjr b.2.2 a.2.2;have h2:=Qtv b.2.2 a.2.2;have h3:=Qjr a.1 b.1;have h4:=Qtv a.1 b.1;have h5:=Qjr a.2.1 b.2.1;by_cases e1:Qjq b.2.2 a.2.2=0;{rw [if_neg (by simpa using e1)];by_cases e2:Qjq a.1 b.1=0;{rw [if_neg (by simpa using e2),h5];rw [h2] at e1;rw [h4] at e2;omega};{rw [if_pos e2,h3];rw [h2] at e1;rw [h4] at e2;omega}};{rw [if_pos e1,h1];rw [h2] at e1;omega}
theorem Rda {a b:Sv}(h1:¬Qtf a b)(h2:¬Qtf b a):a=b:=by
 unfold Qtf at *;obtain ⟨a1,a2,a3⟩:=a;obtain ⟨b1,b2,b3⟩:=b;simp only at *;have e3:a3=b3:=Oo
 have e1:a1=b1:=Oo
 have e2:a2=b2:=Oo
 rw [e1,e2,e3]
theorem Qsf (a b:Sv):ltOf svCf a b=decide (Qtf a b):=by unfold ltOf;by_cases h:Qtf a b;{rw [decide_eq_true ((Rao a b).2 h),decide_eq_true h]};{rw [decide_eq_false (fun g=>h ((Rao a b).1 g)),decide_eq_false h]}
theorem swo_sv:SWO (ltOf svCf) where
 irrefl x:=by rw [Qsf];simp [Qtf]
 trans x y z h1 h2:=by
  rw [Qsf] at *;simp only [decide_eq_true_eq] at *;unfold Qtf at *;omega
 ntrans x y z h1 h2:=by
  rw [Qsf] at *;simp only [decide_eq_false_iff_not] at *;unfold Qtf at *;omega
theorem isAggSv (w:World):(isAgg 161).run prog w=.ok true w:=Kf
theorem sizeOfSv (w:World):(Go.sizeOf 161).run prog w=.ok 3 w:=Kf
theorem sortSv (A:Oz)(n c B:Nat)(L:List Sv)(w:World) (hO:Own w B 161 3 A n c (Qck L)) (hN:L.Nodup) (hB:B≤w.heap.size) (hbig:n<4611686018427387904) :
 Calls prog 136 #[.slice A n c,.func (.func 137) #[] #[]] w fun e w' =>
  e=.returned (.tuple #[])∧(∃ L':List Sv,L'.Perm L∧L'.Pairwise Qtf∧RdS w' A n L')∧RowKit.Below B w w':=by
 have hlen:L.length=n:=by{have:=hO.1;rw [Qih] at this;omega};rcases Nat.eq_zero_or_pos n with h0|h0
 {subst h0;have hL:L=[]:=List.eq_nil_of_length_eq_zero hlen;subst hL;have hcon:=AnyF.slices_SortFunc_none { Tryz.sortSv with } A c (.func (.func 137) #[] #[]) w;refine Calls.mono (show Calls prog 136 _ _ _ from hcon) ?_;rintro e w' ⟨rfl,rfl⟩;exact ⟨rfl,⟨[],List.Perm.refl _,List.Pairwise.nil,rfl,fun i x hx=>by simp at hx⟩,RowKit.Below.refl _ _⟩};{obtain ⟨g,cur,rfl,hg,hblk,hnc,hsz,hcur⟩:=hO.block h0;(have eg:∀ args w,(callFunc 137 args).run prog w=.ok (.enter 137 args) w:=enters_of func137 Kf rfl;have hds:L.toArray.size=n:=by simpa using hlen);have hget:∀ i (hi:i<n),L.toArray[i]! = L[i]:=fun i hi=>by{rw [getElem!_pos L.toArray i Oo];simp};have hH:HoldsK Qgu 3 w g 0 L.toArray:=fun j hj=>by{(have hj':j<n*3:=by rw [size_flatK,hds] at hj;exact hj);rw [Yz];refine ⟨?_,hblk.frozen j⟩;rw [hblk.cell,get_flatK _ _ _ _ (by rw [hds];exact hj'),hget (j / 3) Oo];obtain ⟨c1,c2,c3⟩:=Qlo (l:=L) (i:=j / 3) (p:=L[j / 3]) (Zg Oo);generalize L[j / 3]=p at *;(rcases (show j % 3=0∨j % 3=1∨j % 3=2 by omega) with e|e|e);{have:=hcur _ _ c1;rw [show j / 3*3=j by omega] at this;rw [this,e];rfl};{have:=hcur _ _ c2;rw [show j / 3*3+1=j by omega] at this;rw [this,e];rfl};{have:=hcur _ _ c3;rw [show j / 3*3+2=j by omega] at this;rw [this,e];rfl}};have hC:CmpLays prog 137 #[] Qgu 3 svCf g 0 L.toArray.size w:=fun m os dk hs x y=>by{have:=Rgc x y (sortWorldK Qgu 3 w g 0 m dk os);simpa using this};have hcon:=AnyQ.slices_SortFunc Tryz.sortSv 3 isAggSv sizeOfSv Qgu (fun _=>rfl) (fun x v hv=>by simp [Qgu] at hv;rcases hv with rfl|rfl|rfl <;> rfl) svCf swo_sv 137 #[] g 0 c L.toArray w eg hC hH hblk.lt Oo;rw [hds] at hcon;refine Calls.mono (show Calls prog 136 _ _ _ from hcon) ?_;(rintro e w' ⟨rfl,d',q,os,hp,hsd,rfl⟩;have hd':d'.size=n:=by rw [hp.1,hds]);have hperm:d'.toList.Perm L:=by{have h3:=hp.2.2;rw [show d'.extract 0 n=d' by rw [←hd'];simp,show L.toArray.extract 0 n=L.toArray by rw [←hds];simp] at h3;simpa using h3};have hnd:d'.toList.Nodup:=hperm.nodup_iff.2 hN;refine ⟨rfl,⟨d'.toList,hperm,?_,?_⟩,Qdh id w g B (flatK Qgu 3 d') q os hg hB⟩;{rw [List.pairwise_iff_getElem];(intro i j hi hj hij;have hi':i<n:=by simpa [hd'] using hi);(have hj':j<n:=by simpa [hd'] using hj);(have h4:=hsd i j (Nat.zero_le _) hij hj';rw [Qsf,getElem!_pos d' j Oo,getElem!_pos d' i Oo] at h4;simp only [decide_eq_false_iff_not] at h4;simp only [Array.getElem_toList];refine Classical.byContradiction fun hn=>?_);have he:=Rda hn h4;exact (List.pairwise_iff_getElem.1 hnd i j hi hj hij) (by simpa using he)};{have hH':=holdsK_sortWorldK_c Qgu 3 w g 0 L.toArray d' q os hH hblk.lt (by rw [hd',hds]);(refine ⟨by simpa using hd',fun i x hx=>?_⟩;have hi:i<d'.size:=by have:=(Zs hx).1;simpa using this);have hx2:d'[i]! = x:=by{rw [getElem!_pos d' i hi];have:=(Zs hx).2;simpa using this};have h1:=(HoldsK.cell hH' hi (show 0<3 by omega)).1;have h2:=(HoldsK.cell hH' hi (show 1<3 by omega)).1;have h3:=(HoldsK.cell hH' hi (show 2<3 by omega)).1;rw [hx2] at h1 h2 h3;exact ⟨g,0,rfl,h1,h2,h3⟩}}
end Go.Proofs.YtkaaakbejnlbgaaGreatDoor
namespace Go.Proofs.YtkaaakbejnlbgaaGreatDoor
open Go.RowKit Go.Proofs.Tryz
attribute [local go_sem ↓] Go.wp_at_zero Go.wp_at_succ
theorem infoSv:(Tryz.prog.info? 161).map (fun i=>(i.zero,i.size,i.bytes))=some (some (.agg #[.int .i64 0,.int .i64 0,.int .i64 0]),3,24):=Kf
theorem Qvp:∀ {l:List Sv}{j:Nat}{u:Value},(Qck l)[j]?=some u→∃ p,l[j / 3]?=some p∧((j % 3=0∧u=.int .i64 p.1)∨(j % 3=1∧u=.int .i64 p.2.1)∨(j % 3=2∧u=.int .i64 p.2.2))
 | [],j,u,h=>by simp [Qck] at h
 | q::t,0,u,h=>by simp [Qck] at h;exact ⟨q,Sm,.inl ⟨rfl,h.symm⟩⟩
 | q::t,1,u,h=>by simp [Qck] at h;exact ⟨q,Sm,.inr (.inl ⟨rfl,h.symm⟩)⟩
 | q::t,2,u,h=>by simp [Qck] at h;exact ⟨q,Sm,.inr (.inr ⟨rfl,h.symm⟩)⟩
 | q::t,j+3,u,h=>by obtain ⟨p,h1,h2⟩:=Qvp (l:=t) (j:=j) (u:=u) (by simpa [Qck] using h);refine ⟨p,?_,?_⟩;{rw [show (j+3) / 3=j / 3+1 by omega];simpa using h1};{rw [show (j+3) % 3=j % 3 by omega];exact h2}
theorem RdS.rds {w:World}{n:Nat}{A:Oz}{l:List Sv}(h:RdS w A n l):Rds w 3 A n (Qck l) :=
 ⟨by rw [Qih,h.1],fun j u hu=>by
  obtain ⟨p,hp,hu'⟩:=Qvp hu;obtain ⟨b,o,e,h1,h2,h3⟩:=h.2 _ p hp;refine ⟨b,o,e,?_⟩
  rcases hu' with ⟨hm,rfl⟩|⟨hm,rfl⟩|⟨hm,rfl⟩
  · rw [show o+j=o+j / 3*3 by omega];exact h1
  · rw [show o+j=o+j / 3*3+1 by omega];exact h2
  · rw [show o+j=o+j / 3*3+2 by omega];exact h3⟩
theorem Qwr (A:Oz)(n c:Nat)(l:List Sv)(w:World)(h:RdS w A n l)(hn:n≤1000000000) :
 Calls prog 140 #[.slice A n c] w fun e w'=>∃ A' c',e=.returned (.slice A' n c')∧RdS w' A' n l∧(∀ g,g<w.heap.size→Qaa A'≠some g)∧Bw w w':=by
 have q22:∀ (w:World) (a:Oz) (n c n' c':Nat),(binOp .eql 158 (.slice a n c) (.slice none n' c')).run prog w=.ok (.bool a.isNone) w:=fun w a n c n' c'=>Lib.run_eql_slice_nil w _ _ a n c n' c' underlying158
 cases A with
 | none =>
  have hl:l=[]:=by
   cases hl:l with
   | nil=>rfl
   | cons p t =>obtain ⟨b,o,e,_⟩:=h.2 0 p (by rw [hl];rfl);cases e
  subst hl;have h0:n=0:=by have:=h.1;simpa using this.symm
  subst h0;have H:=Zh h;clear h;go_enter func140,ntmps140
  go_wp2;go_ret;exact ⟨none,0,rfl,H.o,(fun g _ e=>by cases e),Qag⟩
 | some a =>
  have hb1:∀ o,Bw w (w.alloc o):=fun o=>(Zr _ _).alloc (Zn _) o
  have hown0:Own (w.alloc (.cells #[] 161)) w.heap.size 161 3 (some ⟨w.heap.size,0,none⟩) 0 0 []:=Own.lit w #[] 0 (Zn _) Oo rfl;go_enter func140,ntmps140
  go_wp2_with (at_builtin;with_reducible refine Qam rfl (.tmp 5) (.tmp 6) 158 rfl 161 _ 3 24 infoSv underlying158 rfl Oo (B:=w.heap.size) rfl rfl hown0 (h.below (hb1 _)).rds (Rcv _) Oo Oo Sm ?_)
  intro A' c' w' hown hg _;have hb2:Bw w w':=Zo (hb1 _) hg hown0 Sm;go_wp2;go_ret;exact ⟨_,_,rfl,(by simpa using hown.rds:Rds w' 3 A' n (Qck l)).rdS,(fun g hg2 e=>by have:=(hown.lt g e).1;omega),hb2⟩
def Qtg (ls:Lz) (a b:Nat):List Sv :=
 if a=b∨Qas ls (a+1) 0 ≥ INF∨Qas ls 0 (b+1) ≥ INF∨Qas ls (a+1) (b+1) ≥ INF∨Qas ls (a+1) 0+Qas ls 0 (b+1)-Qas ls (a+1) (b+1)≤0 then []
 else [((a:Int)+1,(b:Int)+1,Qas ls (a+1) 0+Qas ls 0 (b+1)-Qas ls (a+1) (b+1))]
def Qji (ls:Lz) (a m:Nat):List Sv:=(List.range m).flatMap (Qtg ls a)
def Qin (ls:Lz) (N k:Nat):List Sv:=(List.range k).flatMap (fun a=>Qji ls a N)
theorem Qln (ls:Lz) (a m:Nat):Qji ls a (m+1)=Qji ls a m ++Qtg ls a m:=by unfold Qji;rw [List.range_succ,List.flatMap_append];simp
theorem Qlj (ls:Lz) (N k:Nat):Qin ls N (k+1)=Qin ls N k ++Qji ls k N:=by unfold Qin;rw [List.range_succ,List.flatMap_append];simp
theorem svOf_len (ls:Lz) (a b:Nat):(Qtg ls a b).length≤1:=by unfold Qtg;split <;> simp
theorem Qou (ls:Lz) (a:Nat):∀ m,(Qji ls a m).length≤m
 | 0=>by simp [Qji]
 | m+1=>by rw [Qln,Yp];have:=Qou ls a m;have:=svOf_len ls a m;omega
theorem Qom (ls:Lz) (N:Nat):∀ k,(Qin ls N k).length≤k*N
 | 0=>by simp [Qin]
 | k+1=>by rw [Qlj,Yp,Nat.add_mul];have:=Qom ls N k;have:=Qou ls k N;omega
theorem Qnb {ls:Lz} {a b:Nat} {x:Sv} (h:x∈Qtg ls a b):x.1=(a:Int)+1∧x.2.1=(b:Int)+1:=by
 unfold Qtg at h;split at h
 {cases h};{simp only [List.mem_singleton] at h;subst h;exact ⟨rfl,rfl⟩}
theorem Qov {ls:Lz} {a m:Nat} {x:Sv} (h:x∈Qji ls a m):∃ b,b<m∧x∈Qtg ls a b:=by unfold Qji at h;simpa using h
theorem Qve {ls:Lz} {N k:Nat} {x:Sv} (h:x∈Qin ls N k):∃ a b,a<k∧b<N∧x∈Qtg ls a b:=by unfold Qin at h;obtain ⟨a,ha,hx⟩:=List.mem_flatMap.1 h;obtain ⟨b,hb,hx⟩:=Qov hx;exact ⟨a,b,by simpa using ha,hb,hx⟩
theorem Qow (ls:Lz) (a:Nat):∀ m,(Qji ls a m).Nodup
 | 0=>by simp [Qji]
 | m+1=>by rw [Qln,List.nodup_append];refine ⟨Qow ls a m,?_,fun x hx y hy e=>?_⟩;{unfold Qtg;split <;> simp};{obtain ⟨b,hb,hx⟩:=Qov hx;have h1:=(Qnb hx).2;have h2:=(Qnb hy).2;rw [e] at h1;omega}
theorem Qon (ls:Lz) (N:Nat):∀ k,(Qin ls N k).Nodup
 | 0=>by simp [Qin]
 | k+1=>by rw [Qlj,List.nodup_append];refine ⟨Qon ls N k,Qow ls k N,fun x hx y hy e=>?_⟩;obtain ⟨a,b,ha,hb,hx⟩:=Qve hx;obtain ⟨b',hb',hy⟩:=Qov hy;have h1:=(Qnb hx).1;have h2:=(Qnb hy).1;rw [e] at h1;omega
def Qjo (ls:Lz):List Sv:=Qin ls (ls.length-1) (ls.length-1)
def sv3 (a b:Nat)(home out over:Int):List Sv:=if a=b∨home ≥ 1152921504606846976∨out ≥ 1152921504606846976∨over ≥ 1152921504606846976∨home+out-over≤0 then [] else [((a:Int)+1,(b:Int)+1,home+out-over)]
theorem svOf_eq (ls:Lz) (a b:Nat):Qtg ls a b=sv3 a b (Qas ls (a+1) 0) (Qas ls 0 (b+1)) (Qas ls (a+1) (b+1)):=rfl
theorem list_any (A:Oz)(n c:Nat) (ls:Lz) (w:World) (h:RdT w A n ls) (hs:sqB n ls=true) (hn:n≤1000) (hn0:0<n) :
 Calls prog 81 #[.slice A n c] w fun e w'=>∃ A' m c' L,e=.returned (.slice A' m c')∧RdS w' A' m L∧L.Perm (Qjo ls)∧L.Pairwise Qtf∧(∀ g,g<w.heap.size→Qaa A'≠some g)∧Bw w w':=by
 obtain ⟨N,rfl⟩:∃ N,n=N+1:=⟨n-1,Oo⟩;have HQ:=Zh (show Calls prog 79 #[.int .i64 ((N:Int)+1),.slice A (N+1) c] w fun e w'=>e=.returned .nilIface∧w=w' from Qlu A (N+1) c ls w h hs Oo);have HSQ:=Zh (Qlq hs);have hcost:∀ i j:Nat,i<N+1→j<N+1→0≤Qas ls i j∧Qas ls i j≤INF:=fun i j hi hj=>by{exact Kcc};have HC:=Zh hcost;have HL:=Zh (show ls.length-1=N by have:=(Qlq hs).1;omega);clear hs hcost;go_enter func81,ntmps81
 go_wp2_with fail
 with_reducible refine (HQ.o).mono ?_
 rintro e w' ⟨rfl,rfl⟩;clear HQ;go_wp2_with fail
 go_loopw [3,4] (fun a i W=>Bw w W∧∃ (k m:Nat) (A3:Oz) (c3:Nat),k≤N∧i=.int .i64 ((k:Int)+1)∧a=.slice A3 m c3∧Own W w.heap.size 161 3 A3 m c3 (Qck (Qin ls N k))∧m=(Qin ls N k).length) (fun _ i _=>(N+1)-(intOf i).toNat)
 case atStart=>exact ⟨Zr _ _,0,0,none,0,Nat.zero_le _,rfl,rfl,Own.nil _ _ _ _,rfl⟩
 case round =>
  obtain ⟨hbl,k,m,A3,c3,hk,rfl,rfl,hown,hm⟩:=hrel;have hml:=Qom ls N k;by_cases hlt:k<N
  · have HM:=Zh hm;clear hm;obtain ⟨wo,rfl⟩:∃ wo:World,wo=wr:=⟨_,rfl⟩;(go_wp2_with fail);(go_loopw [3,5] (fun a i W=>Bw w W∧∃ (q m:Nat) (A3:Oz) (c3:Nat),q≤N∧i=.int .i64 ((q:Int)+1)∧a=.slice A3 m c3∧Own W w.heap.size 161 3 A3 m c3 (Qck (Qin ls N k ++Qji ls k q))∧m=(Qin ls N k ++Qji ls k q).length) (fun _ i _=>(N+1)-(intOf i).toNat));case atStart=>exact ⟨hbl,0,m,A3,c3,Nat.zero_le _,rfl,rfl,by simpa [Qji] using hown,by rw [HM.o];simp [Qji]⟩
    case round =>
     clear hbl hown;obtain ⟨hbl,q,m2,A4,c4,hq,rfl,rfl,hown,hm2⟩:=hrel;have hrl:=Qou ls k q;by_cases hlt2:q<N
     · obtain ⟨b1,o1,b2,o2,c2,rfl,t1,t2⟩:=h.two HSQ.o (i:=k+1) (j:=0) Oo Oo;obtain ⟨b1',o1',b3,o3,c3',e1,t3,t4⟩:=h.two HSQ.o (i:=0) (j:=q+1) Oo Oo;obtain ⟨b1'',o1'',b4,o4,c4',e2,t5,t6⟩:=h.two HSQ.o (i:=k+1) (j:=q+1) Oo Oo;cases e1;cases e2;cases Yv (t1.symm.trans t5);have d1:=HC.o (k+1) 0 Oo Oo;have d2:=HC.o 0 (q+1) Oo Oo;have d3:=HC.o (k+1) (q+1) Oo Oo;have HV:=Zh (svOf_eq ls k q);have HM2:=Zh hm2;have HN:=Zh (Qln ls k q);rw [Nat.add_zero] at t2 t3;generalize Qas ls (k+1) 0=home at *;generalize Qas ls 0 (q+1)=out at *;generalize Qas ls (k+1) (q+1)=over at *;unfold INF at d1 d2 d3
       have HSX:=Zh (show ∀ V,Bw w V→V.cell? ⟨b1,o1+(k+1),none⟩=some (.slice (some ⟨b2,o2,none⟩) (N+1) c2)∧V.cell? ⟨b2,o2,none⟩=some (.int .i64 home)∧V.cell? ⟨b1,o1,none⟩=some (.slice (some ⟨b3,o3,none⟩) (N+1) c3')∧V.cell? ⟨b3,o3+(q+1),none⟩=some (.int .i64 out) ∧
        V.cell? ⟨b2,o2+(q+1),none⟩=some (.int .i64 over) from
        fun V hb=>⟨Zc hb (Zn _) t1,Zc hb (Zn _) t2,Zc hb (Zn _) t3,Zc hb (Zn _) t4,Zc hb (Zn _) t6⟩)
       (have i1:0≤(k:Int)+1:=Oo);(have i2:(k:Int)+1<N+1:=Oo);(have i3:0≤(q:Int)+1:=Oo);(have i4:(q:Int)+1<N+1:=Oo);(have i5:0<(N:Int)+1:=Oo);(have n1:((k:Int)+1).toNat=k+1:=Oo);(have n2:((q:Int)+1).toNat=q+1:=Oo);clear t1 t2 t3 t4 t5 t6 hm2;(go_wp2_with fail);refine wp_region_held_drew (S:=fun V=>Bw w V) Kf Qag (fun _=>?_);refine tzd 0 26 ?_;refine tzd 4 30 ?_;refine tzd 8 34 ?_;refine tzd 12 38 ?_;refine tzb 16 42 ?_;refine tz 18 44 ?_;refine tzb 19 6 ?_;refine tz 21 8 ?_;refine Zd ?_;have w1:IntKind.i64.wrap (home+out)=home+out:=IntWalk.i64_in _ Oo;have w2:IntKind.i64.wrap (home+out-over)=home+out-over:=IntWalk.i64_in _ Oo;by_cases c0:k=q;{have HE:=Zh (show Qtg ls k q=[] by rw [HV.o];unfold sv3;rw [if_pos (Or.inl c0)]);subst c0;(go_wp2_with fail);go_roundw;(case rel=>exact ⟨Qag,k+1,m2,A4,c4,Oo,by go_num,rfl,by rw [HN.o,HE.o,List.append_nil];exact (by repeat (first|assumption|apply Own.drewN|apply Own.drew|apply Own.alloc)),by rw [HN.o,HE.o,List.append_nil];exact HM2.o⟩);case measure=>simp [intOf];omega}
       · (have e0:(((k:Int)+1) == ((q:Int)+1))=false:=by simp;omega);(have e1:((k:Int) == (q:Int))=false:=by simp;omega);have C0:=Zh c0;clear c0;by_cases g1:1152921504606846976≤home
         ·
          have HE:=Zh (show Qtg ls k q=[] by rw [HV.o];unfold sv3;rw [if_pos (Or.inr (Or.inl g1))])
          go_wp2_with fail
          go_roundw
          case rel=>exact ⟨Qag,q+1,m2,A4,c4,Oo,by go_num,rfl,by rw [HN.o,HE.o,List.append_nil];exact (by repeat (first|assumption|apply Own.drewN|apply Own.drew|apply Own.alloc)),by rw [HN.o,HE.o,List.append_nil];exact HM2.o⟩
          case measure=>simp [intOf];omega
         · by_cases g2:1152921504606846976≤out
           ·
            have HE:=Zh (show Qtg ls k q=[] by rw [HV.o];unfold sv3;rw [if_pos (Or.inr (Or.inr (Or.inl g2)))])
            go_wp2_with fail
            go_roundw
            case rel=>exact ⟨Qag,q+1,m2,A4,c4,Oo,by go_num,rfl,by rw [HN.o,HE.o,List.append_nil];exact (by repeat (first|assumption|apply Own.drewN|apply Own.drew|apply Own.alloc)),by rw [HN.o,HE.o,List.append_nil];exact HM2.o⟩
            case measure=>simp [intOf];omega
           · by_cases g3:1152921504606846976≤over
             ·
              have HE:=Zh (show Qtg ls k q=[] by rw [HV.o];unfold sv3;rw [if_pos (Or.inr (Or.inr (Or.inr (Or.inl g3))))])
              go_wp2_with fail
              go_roundw
              case rel=>exact ⟨Qag,q+1,m2,A4,c4,Oo,by go_num,rfl,by rw [HN.o,HE.o,List.append_nil];exact (by repeat (first|assumption|apply Own.drewN|apply Own.drew|apply Own.alloc)),by rw [HN.o,HE.o,List.append_nil];exact HM2.o⟩
              case measure=>simp [intOf];omega
             · by_cases g4:home+out-over≤0
               ·
                have HE:=Zh (show Qtg ls k q=[] by rw [HV.o];unfold sv3;rw [if_pos (Or.inr (Or.inr (Or.inr (Or.inr g4))))])
                go_wp2_with fail
                go_roundw
                case rel=>exact ⟨Qag,q+1,m2,A4,c4,Oo,by go_num,rfl,by rw [HN.o,HE.o,List.append_nil];exact (by repeat (first|assumption|apply Own.drewN|apply Own.drew|apply Own.alloc)),by rw [HN.o,HE.o,List.append_nil];exact HM2.o⟩
                case measure=>simp [intOf];omega
               {have HE:=Zh (show Qtg ls k q=[((k:Int)+1,(q:Int)+1,home+out-over)] by rw [HV.o];unfold sv3;rw [if_neg (by rintro (h|h|h|h|h) <;> first|exact C0.out h|omega)]);(have hown1:=(hown.alloc (.cells #[.int .i64 ((k:Int)+1),.int .i64 ((q:Int)+1),.int .i64 (home+out-over)] 161)).drew;have hbl1:Bw w (wr.alloc (.cells #[.int .i64 ((k:Int)+1),.int .i64 ((q:Int)+1),.int .i64 (home+out-over)] 161)).drew:=Qag;have hb1:=(Blk.new wr 161 #[.int .i64 ((k:Int)+1),.int .i64 ((q:Int)+1),.int .i64 (home+out-over)]).drew;have hsz:w.heap.size≤wr.heap.size:=hbl.size;have hm3:m2≤k*N+q:=by rw [HM2.o,Yp];omega);have hkN:k*N≤1000*1000:=Nat.mul_le_mul Oo Oo;(go_wp2_with (at_builtin;with_reducible refine Qam rfl (.tmp 63) (.tmp 72) 158 rfl 161 _ 3 24 infoSv underlying158 rfl Oo rfl rfl hown1 (hb1.rds rfl) (by simp [Value.oneCell']) Oo Oo (by simp;omega) ?_));intro A6 c6 w6 hown6 hg6 _;have hb6:=Zo hbl1 hg6 hown1 (by simp;omega);clear hown hbl hown1 hbl1 hb1 hg6;go_wp2;go_roundw;(case rel=>exact ⟨hb6,q+1,m2+1,A6,c6,Oo,by go_num,rfl,by rw [HN.o,HE.o,←List.append_assoc,Qqu];exact hown6,by rw [HN.o,HE.o,←List.append_assoc,Yp,←HM2.o];rfl⟩);case measure=>simp [intOf];omega}
     {(obtain rfl:q=N:=Oo);have HM2:=Zh hm2;have HR:=Zh (Qlj ls q k);clear hm2;(go_wp2_with fail);go_roundw;(case rel=>exact ⟨Qag,k+1,m2,A4,c4,Oo,by go_num,rfl,by rw [HR.o];exact (by repeat (first|assumption|apply Own.drewN|apply Own.drew|apply Own.alloc)),by rw [HR.o];exact HM2.o⟩);case measure=>simp [intOf];omega}
  {(obtain rfl:k=N:=Oo);(have HM:=Zh hm;have hm3:m≤1000*1000:=by rw [hm];exact Yx hml (Nat.mul_le_mul Oo Oo));have HS:=Zh (sortSv A3 m c3 w.heap.size (Qin ls k k) wr hown (Qon ls k k) hbl.size Oo);have HA:=Zh (show Qjo ls=Qin ls k k by unfold Qjo;rw [HL.o]);clear hm hml hown;(go_wp2_with fail);(with_reducible refine (HS.o).mono ?_);rintro e w2 ⟨rfl,⟨L',hp,hpw,hrd⟩,hb2⟩;have hb3:Bw w w2:=hbl.trans hb2;(go_wp2_with fail);(with_reducible refine (Qwr _ _ _ _ _ hrd Oo).mono ?_);rintro e w3 ⟨A7,c7,rfl,hrd7,hfr7,hb7⟩;have hz7:=hb3.size;(go_wp2_with fail);go_ret;exact ⟨A7,m,c7,L',rfl,hrd7,by rw [HA.o];exact hp,hpw,(fun g hg=>hfr7 g Oo),Qag⟩}
def Qkb (l:Iz):Int:=(l.getLast?).getD 0
def Qco (l:Iz):Int:=(l.head?).getD 0
theorem lastI_at {l:Iz}{m:Nat}{x:Int}(hl:l.length=m+1) (h:l[m]?=some x):Qkb l=x:=by unfold Qkb;rw [List.getLast?_eq_getElem?,hl,show m+1-1=m by omega,h];rfl
theorem Qru {l:Iz}{x:Int} (h:l[0]?=some x):Qco l=x:=by unfold Qco;rw [List.head?_eq_getElem?,h];rfl
theorem Rfr (A:Oz)(n c g:Nat)(l:Iz)(I:Int)(w:World)(h:RdI w A n l)(hn0:n≠0)(hn:n≤4000000000000000000) (hg:w.cell? ⟨g,0,none⟩=some (.int .i64 I)) :
 Calls prog 83 #[.slice A n c,.pointer (some ⟨g,0,none⟩)] w fun e w'=>e=.returned (.bool (Qkb l == I))∧Bw w w':=by
 obtain ⟨m,rfl⟩:∃ m,n=m+1:=⟨n-1,Oo⟩;obtain ⟨b,o,x,rfl,hx,hc⟩:=h.at_ (show m<m+1 by omega);have HL:=Zh (lastI_at h.1 hx);clear h hx hn0
 have HSX:=Zh (show ∀ V,Bw w V→V.cell? ⟨b,o+m,none⟩=some (.int .i64 x)∧V.cell? ⟨g,0,none⟩=some (.int .i64 I) from
  fun V hb=>⟨Zc hb (Zn _) hc,Zc hb (Zn _) hg⟩)
 have e3:IntKind.i64.wrap (m:Int)=(m:Int):=IntWalk.i64_in _ Oo;have i3:0≤(m:Int):=Oo
 have i4:(m:Int)<m+1:=Oo
 go_enter func83,ntmps83
 go_wp2_with fail
 refine wp_region_held_drew (S:=fun V=>Bw w V) Kf Qag (fun _=>?_);refine tzd 0 4 ?_;refine tzd 4 8 ?_;refine tz 8 12 ?_;refine tz 9 3 ?_;refine Zd ?_;go_wp2_with fail
 go_ret;exact ⟨Qao (by rw [HL.o]),Qag⟩
theorem Rfs (A:Oz)(n c g:Nat)(l:Iz)(J:Int)(w:World)(h:RdI w A n l)(hn0:n≠0) (hg:w.cell? ⟨g,1,none⟩=some (.int .i64 J)) :
 Calls prog 84 #[.slice A n c,.pointer (some ⟨g,0,none⟩)] w fun e w'=>e=.returned (.bool (Qco l == J))∧Bw w w':=by
 obtain ⟨b,o,x,rfl,hx,hc⟩:=h.at_ (show 0<n by omega);have HL:=Zh (Qru hx);rw [Nat.add_zero] at hc;clear h hx
 have HSX:=Zh (show ∀ V,Bw w V→V.cell? ⟨b,o,none⟩=some (.int .i64 x)∧V.cell? ⟨g,1,none⟩=some (.int .i64 J) from
  fun V hb=>⟨Zc hb (Zn _) hc,Zc hb (Zn _) hg⟩)
 have i4:0<(n:Int):=Oo
 have i5:0<n:=Oo
 clear hn0;go_enter func84,ntmps84
 go_wp2_with fail
 refine wp_region_held_drew (S:=fun V=>Bw w V) Kf Qag (fun _=>?_);refine tzd 0 4 ?_;refine tzb 4 8 ?_;refine tz 6 3 ?_;refine Zd ?_;go_wp2_with fail
 go_ret;exact ⟨Qao (by rw [HL.o]),Qag⟩
def idxP (n:Nat)(p:Nat→Bool):Int:=match (List.range n).find? p with|some i=>(i:Int)|none=>-1
theorem idxP_hit {n k:Nat}{p:Nat→Bool}(hk:k<n)(hj:∀ j,j<k→p j=false)(h:p k=true):idxP n p=k:=by unfold idxP;have:(List.range n).find? p=some k:=by{rw [List.find?_range_eq_some];exact ⟨h,by simpa using hk,fun j hj'=>by rw [hj j hj'];rfl⟩};rw [this]
theorem Rfj {n:Nat}{p:Nat→Bool}(hj:∀ j,j<n→p j=false):idxP n p = -1:=by unfold idxP;have:(List.range n).find? p=none:=by{rw [List.find?_eq_none];intro j hj';rw [hj j (by simpa using hj')];simp};rw [this]
theorem Qka (A:Oz)(n c g:Nat)(lb:Array Value)(p:Nat→Bool)(w:World) (eg:∀ args w,(callFunc g args).run prog w=.ok (.enter g args) w) (hn:n≤4000000000000000000)
 (hc:∀ i,i<n→∃ b o v,A=some ⟨b,o,none⟩∧w.cell? ⟨b,o+i,none⟩=some v∧∀ W,Bw w W→Calls prog g (#[v] ++lb) W fun e w'=>e=.returned (.bool (p i))∧Bw W w') :
 Calls prog 82 #[.slice A n c,.func (.func g) #[] lb] w fun e w'=>e=.returned (.int .i64 (idxP n p))∧Bw w w':=by
 have HC:=Zh hc;clear hc;go_enter func82,ntmps82
 go_wp2_with fail
 go_loopw [8] (fun i W=>Bw w W∧∃ k:Nat,k≤n∧i=.int .i64 k∧∀ j,j<k→p j=false) (fun i _=>n-(intOf i).toNat)
 case atStart=>exact ⟨Zr _ _,0,Nat.zero_le _,rfl,fun _ h=>absurd h Oo⟩
 case round =>
  obtain ⟨hbl,k,hk,rfl,hj⟩:=hrel;have HJ:=Zh hj;clear hj;by_cases hlt:k<n
  · obtain ⟨b,o,v,rfl,hv,hcall⟩:=HC.o k hlt;have hv2:=Zc hbl (Zn _) hv;have HK:=Zh hcall;clear hcall hv;cases hp:p k
    · rw [hp] at HK;have HP:=Zh hp;clear hp;(go_wp2_with fail);(with_reducible refine (HK.o _ hbl).mono ?_);rintro e w2 ⟨rfl,hb2⟩;(go_wp2_with fail);go_roundw
      case rel=>exact ⟨Qag,k+1,Oo,by go_num,fun j hj=>by
       rcases Nat.lt_or_ge j k with h1|h1
       · exact HJ.o j h1
       · obtain rfl:j=k:=by omega
         exact HP.o⟩
      case measure=>simp [intOf];omega
    {rw [hp] at HK;have HP:=Zh (idxP_hit hlt HJ.o hp);clear hp;(go_wp2_with fail);(with_reducible refine (HK.o _ hbl).mono ?_);rintro e w2 ⟨rfl,hb2⟩;(go_wp2_with fail);go_ret;exact ⟨Qav HP.o.symm,Qag⟩}
  {(obtain rfl:k=n:=Oo);have HP:=Zh (Rfj HJ.o);(go_wp2_with fail);go_ret;exact ⟨Qav HP.o.symm,Qag⟩}
open Go.Lib Go.Shelf Go.Sort
theorem Rft (A A2:Oz)(n c n2 c2:Nat)(l l2:Iz)(w:World)(h:RdI w A n l)(hn0:n≠0)(h2:RdI w A2 n2 l2)(hn2:n2≠0) :
 Calls prog 89 #[.slice A n c,.slice A2 n2 c2] w fun e w'=>e=.returned (.int .i64 (Qjq (Qco l) (Qco l2)))∧∃ q,w'=w.drewN q:=by
 obtain ⟨b,o,x,rfl,hx,hc⟩:=h.at_ (show 0<n by omega);obtain ⟨b2,o2,x2,rfl,hx2,hc2⟩:=h2.at_ (show 0<n2 by omega);have HC:=Zh (Qiy x x2);have HL:=Zh (show Qjq (Qco l) (Qco l2)=Qjq x x2 by rw [Qru hx,Qru hx2]);rw [Nat.add_zero] at hc hc2;clear h hx h2 hx2;generalize Qjq x x2=r at *
 have HSX:=Zh (show ∀ V,RowKit.Below w.heap.size w V→V.cell? ⟨b,o,none⟩=some (.int .i64 x)∧V.cell? ⟨b2,o2,none⟩=some (.int .i64 x2) from
  fun V hb=>⟨Zc hb (Zn _) hc,Zc hb (Zn _) hc2⟩)
 have i4:0<(n:Int):=Oo
 have i5:0<n:=Oo
 have i6:0<(n2:Int):=Oo
 have i7:0<n2:=Oo
 clear hn0 hn2;go_enter func89,ntmps89
 go_wp2_with fail
 refine wp_region_held_drew (S:=fun V=>RowKit.Below w.heap.size w V) Kf Qag (fun _=>?_);refine tzd 0 5 ?_;refine tzb 4 9 ?_;refine Zk 6 (fun K hK=>?_);go_simp;go_at_call 90
 with_reducible refine (HC.o _).mono ?_
 rintro e w' ⟨rfl,rfl⟩;go_wp2_with fail
 refine hK.out _ _ Qag (fun _=>?_);clear hK K;refine tz 7 4 ?_;refine Zd ?_;go_wp2_with fail
 go_ret;exact ⟨Qav HL.o.symm,1,rfl⟩
theorem Qnm {α:Type}(a:Array α){n:Nat}(h:a.size=n):a.extract 0 n=a:=by subst h;simp
theorem sortRows (g N c B:Nat) (rs:Lz) (w:World) (h:Rts w g N rs) (hne:∀ r∈rs,r≠[]) (hd:rs.Pairwise (fun a b=>Qco a≠Qco b)) (hN:N≤1000000000) (hB:B≤g) :
 Calls prog 88 #[.slice (some ⟨g,0,none⟩) rs.length c,.func (.func 89) #[] #[]] w fun e w' =>
  e=.returned (.tuple #[])∧(∃ rs':Lz,rs'.Perm rs∧rs'.Pairwise (fun a b=>Qco a<Qco b)∧Rts w' g N rs')∧RowKit.Below B w w':=by
 have hlt:=h.lt;have h0:=h.1;rcases Nat.eq_zero_or_pos rs.length with hz|hz
 {have hrs:rs=[]:=List.length_eq_zero_iff.1 hz;subst hrs;have hcon:=AnyF.slices_SortFunc_none { sortRow with } (some ⟨g,0,none⟩) c (.func (.func 89) #[] #[]) w;refine Calls.mono (show Calls prog 88 _ _ _ from hcon) ?_;rintro e w' ⟨rfl,rfl⟩;exact ⟨rfl,⟨[],List.Perm.refl _,List.Pairwise.nil,h⟩,RowKit.Below.refl _ _⟩}
 · obtain ⟨cs,dl,hb,hs,hdl,hdc,hdv⟩:=h.vals;obtain ⟨m,hm⟩:∃ m,rs.length=m:=⟨_,rfl⟩;(haveI:NeZero m:=⟨Oo⟩);(haveI:Inhabited (Fin m):=⟨0⟩);have eg:∀ args w,(callFunc 89 args).run prog w=.ok (.enter 89 args) w:=enters_of func89 Kf rfl;(let enc:Fin m→Value:=fun x=>(dl[x.val]'(by rw [hdl,hm];exact x.isLt)).val);let row:Fin m→Iz:=fun x=>rs[x.val]'(by rw [hm];exact x.isLt)
   have hval:∀ x:Fin m,∃ A n c,enc x=.slice A n c∧RdI w A n (row x)∧Qaa A≠some g∧n≤c∧c≤9223372036854775807:=fun x =>
    hdv x.val (row x) (dl[x.val]'(by rw [hdl,hm];exact x.isLt)) (Zg (by rw [hm];exact x.isLt)) (Zg (by rw [hdl,hm];exact x.isLt))
   (have hrne:∀ x:Fin m,row x≠[]:=fun x=>hne _ (List.getElem_mem _));(let cfn:Fin m→Fin m→Int:=fun x y=>Qjq (Qco (row x)) (Qco (row y)));have hlt':∀ x y:Fin m,ltOf cfn x y=decide (Qco (row x)<Qco (row y)):=fun x y=>by{unfold ltOf;(by_cases h:Qco (row x)<Qco (row y));{rw [decide_eq_true ((Qjr _ _).2 h),decide_eq_true h]};{rw [decide_eq_false (fun g=>h ((Qjr _ _).1 g)),decide_eq_false h]}}
   have hO:SWO (ltOf cfn):={
    irrefl:=fun x=>by rw [hlt'];simp
    trans:=fun x y z h1 h2=>by rw [hlt'] at *;simp only [decide_eq_true_eq] at *;omega
    ntrans:=fun x y z h1 h2=>by rw [hlt'] at *;simp only [decide_eq_false_iff_not] at *;omega }
   (let d:Array (Fin m):=(List.finRange m).toArray);(have hds:d.size=m:=by simp [d]);have hH:Holds enc w g 0 d:=fun j hj=>by{(have hj':j<m:=by rw [←hds];exact hj);(rw [Yz,hb.cell];refine ⟨?_,hb.frozen j⟩;have e1:d[j]! = ⟨j,hj'⟩:=by rw [getElem!_pos d j hj];simp [d]);rw [e1];exact hdc j _ (Zg (by rw [hdl,hm];exact hj'))};have hC:CmpLays1 prog 89 #[] enc cfn g 0 d.size w:=fun q os dk hsd x y=>by{obtain ⟨A,n,c,g1,g2,g3,_⟩:=hval x;obtain ⟨A2,n2,c2,k1,k2,k3,_⟩:=hval y;have hgb:=Qcg enc w g dk q os;have r1:=g2.grown hgb g3;have r2:=k2.grown hgb k3;have:=Rft A A2 n c n2 c2 (row x) (row y) (sortWorld enc w g 0 q dk os) r1 (fun e=>hrne x (List.length_eq_zero_iff.1 (by rw [r1.1,e]))) r2 (fun e=>hrne y (List.length_eq_zero_iff.1 (by rw [r2.1,e])));rw [←g1,←k1] at this;refine Calls.mono (by simpa using this) ?_;rintro e w' ⟨rfl,q',rfl⟩;exact ⟨rfl,q',#[],by rw [grow_empty]⟩};have hcon:=Any.slices_SortFunc sortRow enc (fun x=>(dl[x.val]'(by rw [hdl,hm];exact x.isLt)).property) cfn hO 89 #[] g 0 c d w eg hC hH hb.lt Oo;rw [hds] at hcon;rw [hm];refine Calls.mono (show Calls prog 88 _ _ _ from hcon) ?_;(rintro e w' ⟨rfl,d',q,os,hp,hsd,rfl⟩;have hd':d'.size=m:=by rw [hp.1,hds]);have hperm:d'.toList.Perm (List.finRange m):=by{have h3:=hp.2.2;rw [Qnm d' hd',Qnm d hds] at h3;simpa [d] using h3};have hrow:(List.finRange m).map row=rs:=by{apply List.ext_getElem (by simp [hm]);intro i h1 h2;simp [row]};have hndp:d'.toList.Nodup:=hperm.nodup_iff.2 (List.nodup_finRange m);refine ⟨rfl,⟨d'.toList.map row,?_,?_,?_⟩,Qdh enc w g B d' q os hB Oo⟩;{have:=hperm.map row;rwa [hrow] at this};{rw [List.pairwise_map,List.pairwise_iff_getElem];(intro i j hi hj hij;have hi':i<m:=by simpa [hd'] using hi);(have hj':j<m:=by simpa [hd'] using hj);have h4:=hsd i j (Nat.zero_le _) hij hj';rw [hlt',getElem!_pos d' j Oo,getElem!_pos d' i Oo] at h4;simp only [decide_eq_false_iff_not] at h4;simp only [Array.getElem_toList];have hxy:d'[i]≠d'[j]:=by{have:=(List.pairwise_iff_getElem.1 hndp) i j hi hj hij;simpa using this};have hne':Qco (row d'[i])≠Qco (row d'[j]):=by{(rcases Nat.lt_trichotomy d'[i].val d'[j].val with h5|h5|h5);{exact (List.pairwise_iff_getElem.1 hd) _ _ (by rw [hm];exact d'[i].isLt) (by rw [hm];exact d'[j].isLt) h5};{exact absurd (Fin.ext h5) hxy};{exact Ne.symm ((List.pairwise_iff_getElem.1 hd) _ _ (by rw [hm];exact d'[j].isLt) (by rw [hm];exact d'[i].isLt) h5)}};omega}
   · have:=Rts.put enc (rs':=d'.toList.map row) (d:=d'.toList) hb hs (by simp [hd'];omega) Sm q os (fun j l hl=>by
      rw [Yt] at hl
      cases hx:d'.toList[j]? with
      | none=>rw [hx] at hl;cases hl
      | some x =>
       rw [hx] at hl
       cases hl
       obtain ⟨A,n,c,g1,g2,g3,g4,g5⟩:=hval x;exact ⟨x,A,n,c,rfl,g1,g2,g3,g4,g5⟩)
     simpa using this
end Go.Proofs.YtkaaakbejnlbgaaGreatDoor
namespace Go.Proofs.YtkaaakbejnlbgaaGreatDoor
open Go.RowKit Go.Proofs.Tryz
attribute [local go_sem ↓] Go.wp_at_zero Go.wp_at_succ
theorem Rca (dep cap lim:Int)(A T:Oz)(n c tc:Nat) (st:Pz) (ls:Lz) (w:World) (h:RdP w A n st) (ht:RdT w T (n+1) ls) (hs:sqB (n+1) ls=true) (hf:Qra cap lim ls st) (hn:n≤1000000000) :
 Calls prog 42 #[Qia dep cap lim A n c,.slice T (n+1) tc] w fun e w'=>e=.returned .nilIface∧Bw w w':=by have:=Qjd dep cap lim A T n c tc st ls w h ht hs hn;rw [Qrq.2 hf] at this;exact this
theorem Qrk (a:Addr)(n c:Nat) (rs:Lz) (w:World) (h:RdT w (some a) n rs) (hn:n≤1000000000) :
 Calls prog 91 #[.slice (some a) n c] w fun e w'=>∃ (a':Addr) (c':Nat),e=.returned (.slice (some a') n c')∧RdT w' (some a') n rs∧Bw w w':=by
 have q22:∀ (w:World) (a:Oz) (n c n' c':Nat),(binOp .eql 27 (.slice a n c) (.slice none n' c')).run prog w=.ok (.bool a.isNone) w:=fun w a n c n' c'=>Lib.run_eql_slice_nil w _ _ a n c n' c' underlying27
 obtain ⟨xs,hxl,hxs⟩:=Qkc (p:=fun j (v:Value)=>∃ l b o A n' c',rs[j]?=some l∧some a=some ⟨b,o,none⟩∧w.cell? ⟨b,o+j,none⟩=some v∧v=.slice A n' c'∧RdI w A n' l∧n'≤c'∧c'≤9223372036854775807) n (fun j hj=>by
  obtain ⟨b,o,A',n',c',l,h1,h2,h3,h4,h5,h6⟩:=h.at_ hj;exact ⟨_,l,b,o,A',n',c',h2,h1,h3,rfl,h4,h5,h6⟩)
 have hrd:Rds w 1 (some a) n xs:=⟨Oo,fun j u hu=>by
  obtain ⟨l,b,o,A,n',c',_,h1,h2,_⟩:=hxs j u hu;exact ⟨b,o,h1,h2⟩⟩
 have hone:∀ u∈xs,u.oneCell'=true:=fun u hu=>by{exact Kdf};have hb1:∀ o,Bw w (w.alloc o):=fun o=>(Zr _ _).alloc (Zn _) o
 have hown0:Own (w.alloc (.cells #[] 64)) w.heap.size 64 1 (some ⟨w.heap.size,0,none⟩) 0 0 []:=Own.lit w #[] 0 (Zn _) Oo rfl;have HX:=Zh hxs;have HL:=Zh h.1;clear h hxs;go_enter func91,ntmps91
 go_wp2_with (at_builtin;with_reducible refine Qam rfl (.tmp 5) (.tmp 6) 27 rfl 64 _ 1 24 infoR underlying27 rfl Oo (B:=w.heap.size) rfl rfl hown0 (hrd.below (hb1 _)) hone Oo Oo Sm ?_)
 intro A' c' w' hown hg hat
 obtain ⟨a',rfl⟩:∃ a',A'=some a':=by
  cases A' with
  | none=>rcases hat with h | h <;> cases h
  | some a'=>exact ⟨a',rfl⟩
 have hb2:Bw w w':=Zo (hb1 _) hg hown0 Sm;have hrds:Rds w' 1 (some a') n xs:=by simpa using hown.rds
 go_wp2;go_ret;refine ⟨_,_,rfl,⟨HL.o,fun i l hl=>?_⟩,hb2⟩;have hi:i<xs.length:=by rw [hxl,←HL.o];exact (Zs hl).1
 obtain ⟨l',b,o,A,n',c'',e1,_,_,h3,h4,h5,h6⟩:=HX.o i _ (Zg hi);rw [hl] at e1;cases e1;obtain ⟨b',o',e2,h7⟩:=hrds.2 i _ (Zg hi);rw [h3] at h7;exact ⟨b',o',A,n',c'',e2,h7,h4.below hb2,h5,h6⟩
def Qbs (n:Nat):Lz:=(List.range n).map (fun i:Nat=>[(i:Int)+1])
def Qfp (n:Nat):Iz:=(List.range n).map (fun i:Nat=>(i:Int)+1)
def Qew (rs:Lz) (I:Int):Int:=idxP rs.length (fun i=>Qkb (rs.getD i []) == I)
def Qhr (rs:Lz) (J:Int):Int:=idxP rs.length (fun i=>Qco (rs.getD i []) == J)
def Qbp (cap lim:Int) (ls:Lz) (st:Pz) (rs:Lz) (s:Sv):Lz :=
 let f:=Qew rs s.1
 let t:=Qhr rs s.2.1
 if f<0∨t<0∨f=t then rs else
 let both:=rs.getD f.toNat [] ++rs.getD t.toNat []
 if Qej cap lim ls st both then (rs.set f.toNat both).eraseIdx t.toNat else rs
def Qbl (n:Nat) (rs:Lz):Prop:=(∀ r∈rs,r≠[])∧rs.flatten.Perm (Qfp n)
theorem Qhy (n:Nat)(p:Nat→Bool):idxP n p = -1∨∃ k:Nat,k<n∧idxP n p=k∧p k=true:=by
 unfold idxP
 cases h:(List.range n).find? p with
 | none=>left;rfl
 | some k =>
  right
  rw [List.find?_range_eq_some] at h;exact ⟨k,by simpa using h.2.1,rfl,h.1⟩
theorem Qdt {α:Type}:∀ (l:List α) (i:Nat) (h:i<l.length),(l[i]::l.eraseIdx i).Perm l
 | [],_,h=>absurd h Sm
 | x::t,0,_=>by simp
 | x::t,i+1,h=>by
  have hi:i<t.length:=by simpa using h
  have:=Qdt t i hi;simp only [List.getElem_cons_succ,List.eraseIdx_cons_succ];exact (List.Perm.swap x t[i] _).trans (this.cons x)
theorem joinTwo {rs:Lz} {f t:Nat} (hf:f<rs.length) (ht:t<rs.length) (hne:f≠t):((rs.set f (rs[f] ++rs[t])).eraseIdx t).flatten.Perm rs.flatten:=by
 have hX:(rs.set f (rs[f] ++rs[t])).length=rs.length:=Sm
 have p1:=Qdt (rs.set f (rs[f] ++rs[t])) t Oo;have p2:=Qdt (rs.set f (rs[f] ++rs[t])) f Oo;have p3:=Qdt rs f hf;rw [List.getElem_set_ne hne] at p1;rw [List.getElem_set_self,List.eraseIdx_set_eq] at p2;have q1:=p1.flatten;have q2:=p2.flatten;have q3:=p3.flatten;rw [List.flatten_cons] at q1 q2 q3;have h4:(rs[t] ++((rs.set f (rs[f] ++rs[t])).eraseIdx t).flatten).Perm (rs[t] ++rs.flatten):=by{refine q1.trans (q2.symm.trans ?_);refine ((List.perm_append_comm (l₁:=rs[f]) (l₂:=rs[t])).append_right _).trans ?_;rw [List.append_assoc];exact q3.append_left _};exact (List.perm_append_left_iff _).1 h4
theorem Qkz {rs:Lz} {i:Nat} (h:i<rs.length):rs.getD i []=rs[i]:=by rw [Ya,Zg h];rfl
theorem Qfj (cap lim:Int) (ls:Lz) (st:Pz) (rs:Lz) (s:Sv) :
 Qbp cap lim ls st rs s=rs∨∃ (f t:Nat) (hf:f<rs.length) (ht:t<rs.length),f≠t∧Qkb rs[f]=s.1∧Qco rs[t]=s.2.1∧Qej cap lim ls st (rs[f] ++rs[t])=true∧Qbp cap lim ls st rs s=(rs.set f (rs[f] ++rs[t])).eraseIdx t:=by
 unfold Qbp;rcases Qhy rs.length (fun i=>Qkb (rs.getD i []) == s.1) with hf|⟨f,hf,ef,pf⟩
 {(left);simp only [Qew,hf];rw [if_pos (Or.inl Oo)]};{(rcases Qhy rs.length (fun i=>Qco (rs.getD i []) == s.2.1) with ht|⟨t,ht,et,pt⟩);{(left);simp only [Qhr,ht];rw [if_pos (Or.inr (Or.inl Oo))]};{simp only [Qew,Qhr,ef,et,Yl,Qkz hf,Qkz ht];by_cases hft:f=t;{(left);rw [if_pos (Or.inr (Or.inr (by rw [hft])))]};{rw [if_neg Oo];by_cases hg:Qej cap lim ls st (rs[f] ++rs[t])=true;{(right);rw [if_pos hg];rw [Qkz hf] at pf;rw [Qkz ht] at pt;exact ⟨f,t,hf,ht,hft,by simpa using pf,by simpa using pt,hg,rfl⟩};{(left);rw [if_neg hg]}}}}
theorem Qfk {n:Nat}{cap lim:Int} {ls:Lz} {st:Pz} {rs:Lz} (s:Sv) (h:Qbl n rs):Qbl n (Qbp cap lim ls st rs s):=by
 rcases Qfj cap lim ls st rs s with e|⟨f,t,hf,ht,hne,_,_,_,e⟩
 {rw [e];exact h};{rw [e];refine ⟨fun r hr=>?_,(joinTwo hf ht hne).trans h.2⟩;have hr2:=List.mem_of_mem_eraseIdx hr;(rcases List.mem_or_eq_of_mem_set hr2 with h3|h3);{exact h.1 r h3};{rw [h3];intro e2;exact h.1 _ (List.getElem_mem hf) (List.append_eq_nil_iff.1 e2).1}}
theorem Qen (n:Nat):Qbl n (Qbs n):=by
 refine ⟨fun r hr=>?_,?_⟩;{unfold Qbs at hr;obtain ⟨i,_,e⟩:=List.mem_map.1 hr;rw [←e];simp}
 · have:(Qbs n).flatten=Qfp n:=by
    unfold Qbs Qfp
    induction n with
    | zero=>rfl
    | succ n ih=>rw [List.range_succ,List.map_append,List.map_append,List.flatten_append,ih];simp
   rw [this]
theorem Qsb {n:Nat}{cap lim:Int} {ls:Lz} {st:Pz} (L:List Sv):∀ {rs:Lz},Qbl n rs→Qbl n (L.foldl (Qbp cap lim ls st) rs):=by
 induction L with
 | nil=>intro rs h;exact h
 | cons s t ih=>intro rs h;exact ih (Qfk s h)
theorem Rfb {α β:Type}(F:β→α→β)(z:β){L:List α}{q:Nat}{s:α} (h:L[q]?=some s):(L.take (q+1)).foldl F z=F ((L.take q).foldl F z) s:=by have hlt:=(Zs h).1;have e:=(Zs h).2;rw [Yf hlt,e,List.foldl_append];rfl
theorem Qgn {cap lim:Int} {ls:Lz} {st:Pz} {rs:Lz} {s:Sv} (h:Qew rs s.1<0∨Qhr rs s.2.1<0∨Qew rs s.1=Qhr rs s.2.1):Qbp cap lim ls st rs s=rs:=by unfold Qbp;exact if_pos h
theorem Qxj {cap lim:Int} {ls:Lz} {st:Pz} {rs:Lz} {s:Sv} {f t:Nat} (hf:Qew rs s.1=f) (ht:Qhr rs s.2.1=t) (hne:f≠t) :
 Qbp cap lim ls st rs s=if Qej cap lim ls st (rs.getD f [] ++rs.getD t []) then (rs.set f (rs.getD f [] ++rs.getD t [])).eraseIdx t else rs:=by unfold Qbp;rw [hf,ht];simp only [Yl];rw [if_neg Oo]
theorem Qro (rs:Lz) (I:Int):Qew rs I<0∨∃ f:Nat,f<rs.length∧Qew rs I=f:=by
 rcases Qhy rs.length (fun i=>Qkb (rs.getD i []) == I) with h|⟨f,h1,h2,_⟩
 {left;unfold Qew;rw [h];omega};{exact Or.inr ⟨f,h1,h2⟩}
theorem Qvx (rs:Lz) (I:Int):Qhr rs I<0∨∃ f:Nat,f<rs.length∧Qhr rs I=f:=by
 rcases Qhy rs.length (fun i=>Qco (rs.getD i []) == I) with h|⟨f,h1,h2,_⟩
 {left;unfold Qhr;rw [h];omega};{exact Or.inr ⟨f,h1,h2⟩}
theorem Rts.row {W:World}{g N i:Nat} {rs:Lz} (h:Rts W g N rs) (hi:i<rs.length):∃ A n c,W.cell? ⟨g,i,none⟩=some (.slice A n c)∧W.frozen? ⟨g,i,none⟩=false∧RdI W A n (rs.getD i [])∧Qaa A≠some g∧n≤c∧c≤9223372036854775807:=by obtain ⟨h0,cs,h1,h2,hr⟩:=h;obtain ⟨A,n,c,g1,g2,g3,g4,g5⟩:=hr i _ (Zg hi);refine ⟨A,n,c,by rw [h1.cell];exact g1,h1.frozen i,?_,g3,g4,g5⟩;rw [Qkz hi];exact g2
theorem Qbl.bd {k i:Nat} {rs:Lz} (h:Qbl k rs) (hi:i<rs.length):0<(rs.getD i []).length∧(rs.getD i []).length≤k:=by rw [Qkz hi];have h1:=h.1 _ (List.getElem_mem hi);have h2:rs[i].Sublist rs.flatten:=List.sublist_flatten_of_mem (List.getElem_mem hi);have h3:=h2.length_le;rw [h.2.length_eq] at h3;simp only [Qfp,List.length_map,List.length_range] at h3;exact ⟨List.length_pos_iff.2 h1,h3⟩
theorem Qbl.ne {k:Nat} {rs:Lz} (h:Qbl k rs):∀ r∈rs,r≠[]:=h.1
theorem Qbl.heads {k:Nat} {rs:Lz} (h:Qbl k rs):rs.Pairwise (fun a b=>Qco a≠Qco b):=by
 have hn:rs.flatten.Nodup:=(h.2.nodup_iff).2 (by
  unfold Qfp;rw [List.nodup_iff_pairwise_ne,List.pairwise_map];exact (List.nodup_iff_pairwise_ne.1 List.nodup_range).imp (fun h e=>h Oo))
 rw [List.nodup_iff_pairwise_ne,List.pairwise_flatten] at hn
 have head_mem:∀ r∈rs,Qco r∈r:=fun r hr=>by
  cases r with
  | nil=>exact absurd rfl (h.1 _ hr)
  | cons x t=>simp [Qco]
 refine hn.2.imp_of_mem ?_;intro a b ha hb hab;exact hab _ (head_mem a ha) _ (head_mem b hb)
theorem Rew (g N c bx k:Nat)(I:Int) (rs:Lz) (W:World) (h:Rts W g N rs) (hp:Qbl k rs) (hk:k≤1000) (hN:N≤1000000000) (hb:W.cell? ⟨bx,0,none⟩=some (.int .i64 I)) :
 Calls prog 82 #[.slice (some ⟨g,0,none⟩) rs.length c,.func (.func 83) #[] #[.pointer (some ⟨bx,0,none⟩)]] W fun e w'=>e=.returned (.int .i64 (Qew rs I))∧Bw W w':=by have h0:=h.1;refine Qka (some ⟨g,0,none⟩) rs.length c 83 #[.pointer (some ⟨bx,0,none⟩)] (fun i=>Qkb (rs.getD i []) == I) W (enters_of func83 Kf rfl) Oo (fun i hi=>?_);obtain ⟨A,n,c',g1,_,g3,_⟩:=h.row hi;have hbd:=hp.bd hi;have hl:=g3.1;refine ⟨g,0,.slice A n c',rfl,by rw [Yz];exact g1,fun V hV=>?_⟩;exact Rfr A n c' bx (rs.getD i []) I V (g3.below hV) Oo Oo (Zc hV (Zn _) hb)
theorem then_any (g N c bx k:Nat)(J:Int) (rs:Lz) (W:World) (h:Rts W g N rs) (hp:Qbl k rs) (_hk:k≤1000) (hN:N≤1000000000) (hb:W.cell? ⟨bx,1,none⟩=some (.int .i64 J)) :
 Calls prog 82 #[.slice (some ⟨g,0,none⟩) rs.length c,.func (.func 84) #[] #[.pointer (some ⟨bx,0,none⟩)]] W fun e w'=>e=.returned (.int .i64 (Qhr rs J))∧Bw W w':=by have h0:=h.1;refine Qka (some ⟨g,0,none⟩) rs.length c 84 #[.pointer (some ⟨bx,0,none⟩)] (fun i=>Qco (rs.getD i []) == J) W (enters_of func84 Kf rfl) Oo (fun i hi=>?_);obtain ⟨A,n,c',g1,_,g3,_⟩:=h.row hi;have hbd:=hp.bd hi;have hl:=g3.1;refine ⟨g,0,.slice A n c',rfl,by rw [Yz];exact g1,fun V hV=>?_⟩;exact Rfs A n c' bx (rs.getD i []) J V (g3.below hV) Oo (Zc hV (Zn _) hb)
