/- Parts of the proof: Tl, Si, Yr, RfI, RfU, Ys, AsA. -/
import Derived.Test.YtdheeddnkdhfeaaGreatDoorH21
import Derived.Deep.RegionHeld3
import Derived.Deep.DrawnRows
import Derived.Laws.StructEq
namespace Go.Proofs.YtdheeddnkdhfeaaGreatDoor
open Go.RowKit Go.Extern.Stop Go.Stop Go.Extern Go.Proofs.Tryz
theorem Qek (t:Addr)(p:Nat)(w:World):Below w.heap.size w (asX t p w):=Qah
theorem as_fault (b o g:Nat)(old:Value)(w:World)(hg:w.cell? ⟨0,0,none⟩=some Qni)(ht0:w.cell? ⟨g,0,none⟩=some old)(hf0:w.frozen? ⟨g,0,none⟩=false) :
 Calls prog 71 #[fltV b o,.iface 148 (.pointer (some ⟨g,0,none⟩))] w fun ev w'=>ev=.returned (.bool true)∧w'.cell? ⟨g,0,none⟩=some (.pointer (some ⟨b,o,none⟩))∧Below g w w' :=
 (as_hitF ⟨b,o,none⟩ ⟨g,0,none⟩ old w hg ht0 hf0).mono fun e w' ⟨he,hw⟩=>by
  have hlt:=Qak ht0;have hb:Below g w (asX ⟨g,0,none⟩ 148 w):=(Qek _ _ w).mono (Nat.le_of_lt hlt);have hb2:Below g w ((asX ⟨g,0,none⟩ 148 w).alloc (.cells #[.pointer (some ⟨b,o,none⟩)] 146)):=hb.alloc (Yx (Nat.le_of_lt hlt) (Qek _ _ w).size) _;refine ⟨he,?_,?_⟩
  · rw [hw]
    have hc:((asX ⟨g,0,none⟩ 148 w).alloc (.cells #[.pointer (some ⟨b,o,none⟩)] 146)).cell? ⟨g,0,none⟩=some old :=
     Zc (Bel.alloc (Qek ⟨g,0,none⟩ 148 w)) (Zn _) ht0
    exact World.cell?_setCell_same _ _ _ hc
  · rw [hw];exact hb2.setCell (Zn _) _
theorem as_errno (c:Int)(g:Nat)(old:Value)(w:World)(hg:w.cell? ⟨0,0,none⟩=some Qni)(ht0:w.cell? ⟨g,0,none⟩=some old)(hf0:w.frozen? ⟨g,0,none⟩=false) :
 Calls prog 71 #[Qpb c,.iface 153 (.pointer (some ⟨g,0,none⟩))] w fun ev w'=>ev=.returned (.bool true)∧w'.cell? ⟨g,0,none⟩=some (.int .i64 c)∧Below g w w' :=
 (as_hitE c ⟨g,0,none⟩ old w hg ht0 hf0).mono fun e w' ⟨he,hw⟩=>by
  have hlt:=Qak ht0;have hb:Below g w (asX ⟨g,0,none⟩ 153 w):=(Qek _ _ w).mono (Nat.le_of_lt hlt);have hb2:Below g w ((asX ⟨g,0,none⟩ 153 w).alloc (.cells #[.int .i64 c] 131)):=hb.alloc (Yx (Nat.le_of_lt hlt) (Qek _ _ w).size) _;refine ⟨he,?_,?_⟩
  · rw [hw]
    have hc:((asX ⟨g,0,none⟩ 153 w).alloc (.cells #[.int .i64 c] 131)).cell? ⟨g,0,none⟩=some old :=
     Zc (Bel.alloc (Qek ⟨g,0,none⟩ 153 w)) (Zn _) ht0
    exact World.cell?_setCell_same _ _ _ hc
  · rw [hw];exact hb2.setCell (Zn _) _
theorem as_none (c:Int)(g:Nat)(w:World)(hg:w.cell? ⟨0,0,none⟩=some Qni) :
 Calls prog 71 #[Qpb c,.iface 148 (.pointer (some ⟨g,0,none⟩))] w fun ev w'=>ev=.returned (.bool false)∧Below w.heap.size w w' :=
 (as_miss c ⟨g,0,none⟩ w hg).mono fun e w' ⟨he,hw⟩=>⟨he,by rw [hw];exact Qek _ _ w⟩
set_option maxHeartbeats 1000000 in
theorem Qzk (A:Option Addr)(n c:Nat)(w:World) :
 Calls prog 23 #[.nilIface,.agg #[.slice A n c,.int .i64 0]] w fun e w'=>e=.returned (.bool true)∧Below w.heap.size w w':=by
 go_enter func23,ntmps23
 go_wp2;go_ret;exact ⟨rfl,Qah⟩
theorem Quk {w:World}{v:Value} {ps:List (ByteArray×Int)} {c:Int} {k:Nat} {p:ByteArray×Int} (hk:ps[k]?=some p) (h:Qcj w v (ps.drop k) c) :
 ∃ b o u,v=fltV b o∧w.cell? ⟨b,o,none⟩=some (.string p.1)∧w.cell? ⟨b,o+1,none⟩=some (.int .i64 p.2)∧w.cell? ⟨b,o+2,none⟩=some u∧Qcj w u (ps.drop (k+1)) c:=by have hlt:=(Zs hk).1;rw [List.drop_eq_getElem_cons hlt] at h;have e:ps[k]=p:=(Zs hk).2;rw [e] at h;exact h
attribute [local go_sem ↓] Go.wp_at_zero Go.wp_at_succ
set_option maxHeartbeats 4000000 in
theorem Qqd (v:Value)(A:Option Addr)(n c:Nat) (ps:List (ByteArray×Int)) (c0:Int) (w:World) (h:Qcj w v ps c0) (hr:RdW w A n ps) (hc0:c0≠0) (hg:w.cell? ⟨0,0,none⟩=some Qni) (hn:n≤4000000000000000000) :
 Calls prog 23 #[v,.agg #[.slice A n c,.int .i64 c0]] w fun e w'=>e=.returned (.bool true)∧Below w.heap.size w w':=by
 have HI:∀ (W:World),Below w.heap.size w W→Calls prog 70 #[v,Qpb c0] W fun e w'=>e=.returned (.bool true)∧w'=W:=fun W hb=>errorsIs v ps c0 W (Qcj.below hb h)
 have HI':=Zh HI;clear HI;obtain ⟨tvv,xv,hv⟩:=Qbd h;have hlt0:=Qak hg;have HC:=Zh hc0;have HCH:=Zh h;subst hv;clear h;go_enter func23,ntmps23
 go_wp2_with fail
 with_reducible refine (HI'.out _ Qah).mono ?_
 rintro e w' ⟨rfl,rfl⟩;clear HI';go_wp2_with fail
 (refine Qaj ?_;intro w1 hw1);have hb1:Below w.heap.size w w1:=by rw [hw1];exact Qah
 have hx0:w1.cell? ⟨w.heap.size,0,none⟩=some (.slice A n c):=by rw [hw1];simp
 have hx1:w1.cell? ⟨w.heap.size,1,none⟩=some (.int .i64 c0):=by rw [hw1];simp
 have hg1:w1.cell? ⟨0,0,none⟩=some Qni:=Zc hb1 (Zn _) hg;have hr1:=hr.below hb1;have hch:=Qcj.below hb1 HCH.out;have HCH1:=Zh hch;clear hch HCH hr hw1 hg;go_loopw [0,5] (fun u i W=>∃ (k:Nat),k≤n∧i=.int .i64 k∧Qcj W u (ps.drop k) c0∧Below w1.heap.size w1 W) (fun _ i _=>n-(intOf i).toNat)
 case atStart=>exact ⟨0,Nat.zero_le _,rfl,HCH1.out,Zr _ _⟩
 case round =>
  obtain ⟨k,hk,rfl,hch,hbl⟩:=hrel;have y0:=Zc hbl (Zn _) hx0;by_cases hlt:k<n
  · have hlen:=hr1.1;obtain ⟨p,hp⟩:∃ p,ps[k]?=some p:=⟨ps[k],Zg (by omega)⟩;obtain ⟨pb,po,rfl,hp1,hp2⟩:=hr1.2 k p hp;obtain ⟨b,o,u,rfl,hc1,hc2,hc3,hc4⟩:=Quk hp hch;obtain ⟨tu,xu,hu⟩:=Qbd hc4;have HP:=Zh hp;have H4:=Zh hc4;have z:=hbl.size;clear hp hch hlen hc4;subst hu;obtain ⟨s,q0⟩:=p;(go_wp2_with fail);(refine Qaj ?_;intro W5 hW5);(have hb5:Below w1.heap.size w1 W5:=by rw [hW5];exact Qah);(have hbr:Below wr.heap.size wr W5:=by rw [hW5];exact Qah);(have ht5:W5.cell? ⟨wr.heap.size,0,none⟩=some (.pointer none):=by rw [hW5];simp);(have hf5:W5.frozen? ⟨wr.heap.size,0,none⟩=false:=by rw [hW5];simp);have hg5:=Zc hb5 (Zn _) hg1;have hz5:=Qak ht5
    have HA:∀ V,Below W5.heap.size W5 V→Calls prog 71 #[fltV b o,.iface 148 (.pointer (some ⟨wr.heap.size,0,none⟩))] V fun ev w'=>ev=.returned (.bool true)∧w'.cell? ⟨wr.heap.size,0,none⟩=some (.pointer (some ⟨b,o,none⟩))∧Below wr.heap.size W5 w':=fun V hV =>
     (as_fault b o wr.heap.size _ V (Zc hV (Zn _) hg5) (Zc hV (Zn _) ht5) ((Below.frozenOf hV hz5).trans hf5)).mono fun _ _ ⟨h1,h2,h3⟩=>⟨h1,h2,(hV.mono (Nat.le_of_lt hz5)).trans h3⟩
    have HA':=Zh HA;clear HA;clear hW5 hf5 hg5;refine wp_region_held_drew (S:=fun _=>True) (by kernel_rfl) trivial (fun _=>?_);refine tzb 0 31 ?_;refine Zk 2 (fun K hK=>?_);go_simp;(go_at_call 71);(with_reducible refine (HA'.out _ Qah).mono ?_);rintro e w6 ⟨rfl,ht6,hb6⟩;have hb7:Below wr.heap.size wr w6:=hbr.trans hb6;have c6:=Zc hb7 (Zn _) hc1;have d6:=Zc hb7 (Zn _) hc2;have e6:=Zc hb7 (Zn _) hc3;have y6:=Zc hb7 (Zn _) y0;have p6:=Zc hb7 (Zn _) (Zc hbl (Zn _) hp1);have q6:=Zc hb7 (Zn _) (Zc hbl (Zn _) hp2);(go_wp2_with fail);(refine hK.out _ _ trivial (fun _=>?_);clear hK K;refine Qlk (S':=fun V=>V=w6) (fun _ _=>trivial) _ _ _ _ ?_;have i1:0≤(k:Int):=by omega);(have i2:(k:Int)<n:=by omega);clear hc1 hc2 hc3 y0 hp1 hp2 HA' hx1 hb5 hbr ht5 hz5;refine tzd 3 34 ?_;refine tzd 7 38 ?_;refine tzd 11 42 ?_;refine tzd 15 46 ?_;refine tzd 19 50 ?_;refine tzd 23 54 ?_;refine tzd 27 58 ?_;refine tzb 31 62 ?_;refine tz 33 64 ?_;refine Zd ?_;(go_wp2_with fail);exact ⟨⟨k+1,by omega,by go_num,Qcj.below hb7 H4.out,Zb hbl hb7⟩,by simp [intOf];omega⟩
  {(obtain rfl:k=n:=by omega);rw [List.drop_of_length_le (by have:=hr1.1;omega)] at hch;unfold Qcj at hch;subst hch;have x1:=Zc hbl (Zn _) hx1;have gr:=Zc hbl (Zn _) hg1;have z:=hbl.size;clear hx0 hr1 hx1;(go_wp2_with fail);(refine Qac ?_;intro W5 hW5);(have hbr:Below wr.heap.size wr W5:=by rw [hW5];exact Qah);(have ht5:W5.cell? ⟨wr.heap.size+1,0,none⟩=some (.int .i64 0):=by rw [hW5];simp);(have hf5:W5.frozen? ⟨wr.heap.size+1,0,none⟩=false:=by rw [hW5];simp);(have g5:=Zc hbr (Zn _) gr;have z5:=Qak ht5;clear hW5;with_reducible refine (as_none c0 wr.heap.size _ g5).mono ?_);rintro e w6 ⟨rfl,hb6⟩;have hb56:=hbr.trans (hb6.mono hbr.size);(go_wp2_with fail);(with_reducible refine (as_errno c0 (wr.heap.size+1) _ _ (Zc hb6 (Zn _) g5) (Zc hb6 (Zn _) ht5) ((Below.frozenOf hb6 z5).trans hf5)).mono ?_);rintro e w7 ⟨rfl,ht7,hb7⟩;have hb8:Below wr.heap.size wr w7:=hb56.trans (hb7.mono (Nat.le_succ _));have x7:=Zc hb8 (Zn _) x1;clear hb6 hb7 hb56 ht5 hf5;(go_wp2_with fail);go_ret;exact ⟨rfl,Qah⟩}
end Go.Proofs.YtdheeddnkdhfeaaGreatDoor
namespace Go.Proofs.YtdheeddnkdhfeaaGreatDoor
open Go.RowKit Go.Proofs.Tryz
attribute [local go_sem ↓] Go.wp_at_zero Go.wp_at_succ
set_option maxHeartbeats 1000000 in
theorem Qjc (A B:Option Addr)(n m c d:Nat)(l l2:List Int)(w:World)(h:RdI w A n l)(h2:RdI w B m l2)(hn:n≤1000000000)(hm:m≤1000000000) :
 Calls prog 54 #[.slice A n c,.slice B m d] w fun e w'=>e=.returned (.bool (decide (l=l2)))∧∃ k,w'=w.drewN k:=by
 have HR:=Zh h;have HR2:=Zh h2;have HL:=Zh h.1;have HL2:=Zh h2.1;clear h h2;by_cases hnm:n=m;rotate_left;{(have e1:((n:Int) != (m:Int))=true:=by simp;omega);(have e2:((n:Int) == (m:Int))=false:=by simp;omega);have HD:=Zh (show decide (l=l2)=false from decide_eq_false (fun e=>hnm (by rw [←HL.out,←HL2.out,e])));(go_enter func54,ntmps54);(go_wp2_with fail);go_ret;exact ⟨Qbh HD.out.symm,0,rfl⟩};subst hnm;go_enter func54,ntmps54
 exact Kae
end Go.Proofs.YtdheeddnkdhfeaaGreatDoor
namespace Go.Proofs.YtdheeddnkdhfeaaGreatDoor
open Go.RowKit Go.Extern.Stop Go.Stop Go.Extern Go.Proofs.Tryz
attribute [local go_sem ↓] Go.wp_at_zero Go.wp_at_succ
theorem ch_row {a q:Nat}{c:Int}{l:List Nat} (h:Qed (StW Qbc) a q c l):l=(List.range (q-a)).map (fun k=>a+1+k)∧a≤q:=by
 induction h with
 | start=>simp
 | @step p q c d l _ h2 ih =>obtain ⟨_,rfl,_⟩:=Qne.1 h2;obtain ⟨ih,hle⟩:=ih;refine ⟨?_,by omega⟩;rw [ih,show p+1-a=(p-a)+1 by omega,List.range_succ,List.map_append];simp;omega
theorem ch_path {v:Int}{L:List Nat}{k:Int}(h:PthP Qbc 0 4 Qdj.length v L k):v=44∧L=[0,1,2,3,4]∧0≤k∧k≤5:=by obtain rfl:v=44:=h.dist.uniq (.inr ⟨by decide,ch_dist⟩);obtain ⟨l,rfl,hr,_⟩:=h.row (by decide);have hl:l=[1,2,3,4]:=(ch_row hr).1;subst hl;have hb:=h.kb;exact ⟨rfl,rfl,h.k0,hb⟩
theorem ch_path0 {v:Int}{L:List Nat}{k:Int}(h:PthP Qbc 3 1 Qdj.length v L k):v=1152921504606846976∧L=[]:=by have hd:Qjv Qbc 3 1 1152921504606846976:=.inr ⟨by decide,.inr ⟨rfl,fun c hc=>by have:=(ch_rch hc).1;omega⟩⟩;obtain rfl:=h.dist.uniq hd;exact ⟨rfl,(h.none_ rfl).1⟩
def Lp1 (e:Ending)(w':World):Prop:=∃ (A:Option Addr) (c:Nat),e=.returned (.tuple #[.slice A 3 c,.nilIface])∧RdI w' A 3 [1,2,3]
def Lp0 (e:Ending)(w':World):Prop:=∃ v,e=.returned (.tuple #[.slice none 0 0,v])∧Qcj w' v [((⟨#[108,101,97,112]⟩:ByteArray),2)] 5
theorem ch_leap1 {e:Ending}{w':World}(h:LpR Qbc Qdj 1 1 1 1 3 e w'):Lp1 e w':=by
 rcases h with ⟨k,c,v,h1,_⟩|⟨A,n,cc,L,a,b,j,c,l,v,_,h1,h2,h3,hl,hp,he,ho,hr,_⟩
 {(exfalso);(rcases h1 with ⟨h2,_⟩|⟨_,h2,_⟩|⟨_,_,h2,_⟩|⟨_,_,_,h2,_⟩|⟨_,⟨a,b,j,l,y,z,h2,h3,h4,hl,hy,_,_,_,_,hE⟩,_⟩);{(rcases h2 with h2|h2);{exact absurd h2 (by decide)};{exact absurd h2 (by decide)}};{exact absurd rfl h2};{exact absurd h2 (by decide)};{exact absurd (by decide) h2};{(obtain rfl:a=1:=by omega);(obtain rfl:b=3:=by omega);(obtain rfl:j=0:=by omega);cases hl;cases hy;exact absurd (Lst.uniq hE ch_ent) (by decide)}};{(obtain rfl:a=1:=by omega);(obtain rfl:b=3:=by omega);(obtain rfl:j=0:=by omega);cases hl;(obtain ⟨⟨p,c1,e1,l',g1,g2,_,rfl⟩,_⟩:=ho;obtain ⟨_,hp2⟩:=Qww g2.1;obtain rfl:p=2:=by omega);(have hl':l'=[2]:=(ch_row (g1.mono (fun _ _ _ h=>h.all))).1;subst hl';obtain rfl:n=3:=by rw [←hr.1];rfl);exact ⟨A,cc,he,hr⟩}
theorem ch_leap0 {e:Ending}{w':World}(h:LpR Qbc Qdj 1 1 1 0 3 e w'):Lp0 e w':=by
 rcases h with ⟨k,c,v,h1,he,hc⟩|⟨A,n,cc,L,a,b,j,c,l,v,_,h1,h2,h3,hl,hp,_⟩
 {(rcases h1 with ⟨h2,_⟩|⟨_,h2,_⟩|⟨_,_,_,rfl,rfl⟩|⟨_,_,h2,_⟩|⟨_,⟨a,b,j,l,y,z,h2,h3,h4,hl,hy,_,g1,_⟩,_⟩);{(rcases h2 with h2|h2);{exact absurd h2 (by decide)};{exact absurd h2 (by decide)}};{exact absurd rfl h2};{exact ⟨v,he,hc⟩};{exact absurd h2 (by decide)};{(obtain rfl:a=0:=by omega);(obtain rfl:j=0:=by omega);cases hl;cases hy;exact absurd (by decide) g1}};{(obtain rfl:a=0:=by omega);(obtain rfl:j=0:=by omega);cases hl;obtain ⟨y,hy,g1,g2⟩:=hp.sy;cases hy;exact absurd g2 g1}
set_option maxRecDepth 20000 in
set_option maxHeartbeats 4000000 in
theorem Qva (w:World)(hg:w.cell? ⟨0,0,none⟩=some Qni):Calls prog 17 #[] w fun e w'=>e=.returned (.bool true)∧Below w.heap.size w w':=by
 have HG:=Zh hg;have hg0:=Qak hg;simp only at hg0;clear hg;go_enter func17,ntmps17
 go_wp2_with fail
 with_reducible refine (chain_ok w).mono ?_
 unfold ChnP;rintro r w1 ⟨⟨A,B,C,Q,ca,cb,cc,cq,rfl,hn1,hq1⟩,hb1⟩;have HN1:=Zh hn1;have HQ1:=Zh hq1;have HB1:=Zh hb1;clear hn1 hq1 hb1;go_wp2_with fail
 (refine Qac ?_;intro w2 hw2);have hb2:Below w1.heap.size w1 w2:=by rw [hw2];exact Qah
 clear hw2;have HB2:=Zh (Zb HB1.out hb2);have HN2:=Zh (HN1.out.below hb2);have HQ2:=Zh (HQ1.out.below hb2);clear hb2 HN1 HQ1 HB1;with_reducible refine (Qtr A B C Q 6 5 3 ca cb cc 1 cq Qbc Qdj w2 HN2.out Qhr HQ2.out Qhq (by rw [Qot];omega)).mono ?_
 unfold Qsn;rintro r w3 ⟨⟨g,o,CB,NC,cl,F,rfl,hNC,hG,hF,hO,hC,hA⟩,hb3⟩;rw [Qot] at hNC;subst hNC;obtain rfl:=hA.uniq Qss;have HB3:=Zh (Zb HB2.out hb3);have HG3:=Zh hG.rd;have HO3:=Zh (hO.le (Qau _ _));have HC3:=Zh (show RdI w3 (some ⟨CB,0,none⟩) 1 [12] from ⟨hC.1,fun i x hx=>by obtain ⟨b,o,e,h1⟩:=hC.2 i x hx;exact ⟨b,o,e,Qau _ _ _ _ h1⟩⟩);have hS1:Qbw (Qae Qbc.ar Qdj)≤1000000000:=by rw [Qot];omega
 have HP1:=Zh (fun V (hV:Below w3.heap.size w3 V)=>show Calls prog 28 #[.pointer (some ⟨g,0,none⟩),.pointer (some ⟨o,0,none⟩),.slice (some ⟨CB,0,none⟩) 1 1,.int .i64 0,.int .i64 4] V _ from Qku V g o Qbc Qdj (some ⟨CB,0,none⟩) 1 1 [12] 0 4 _ _ (HG3.out.below hV) (HO3.out.below hV) (HC3.out.below hV) Qhr Qhq Qss ⟨by omega,by omega⟩ hS1 rfl rfl);have HP2:=Zh (fun V (hV:Below w3.heap.size w3 V)=>show Calls prog 28 #[.pointer (some ⟨g,0,none⟩),.pointer (some ⟨o,0,none⟩),.slice (some ⟨CB,0,none⟩) 1 1,.int .i64 3,.int .i64 1] V _ from Qku V g o Qbc Qdj (some ⟨CB,0,none⟩) 1 1 [12] 3 1 _ _ (HG3.out.below hV) (HO3.out.below hV) (HC3.out.below hV) Qhr Qhq Qss ⟨by omega,by omega⟩ hS1 rfl rfl);have HL:=Zh (fun V (hV:Below w3.heap.size w3 V) f=>Qkt V g o Qbc Qdj (some ⟨CB,0,none⟩) 1 1 1 [12] 1 f 3 (HG3.out.below hV) (HO3.out.below hV) (HC3.out.below hV) Qhr Qhq Qot.symm (fun _=>Qss) ⟨by omega,by omega⟩ (by omega));clear hG hF hO hC hA hb3 HN2 HQ2 HB2 hS1;go_wp2_with fail
 with_reducible refine (HP1.out w3 (Zr _ _)).mono ?_
 unfold PtR;rintro r w4 ⟨⟨v,A4,n4,c4,L4,k4,rfl,hp4,hr4,_⟩,hb4⟩;obtain ⟨rfl,rfl,hk0,hk5⟩:=ch_path hp4;obtain rfl:n4=5:=by rw [←hr4.1];rfl
 have HR4:=Zh hr4;clear hp4 hr4 HP1;go_wp2_with fail
 (refine Qac ?_;intro w5 hw5);have hb5:Below w4.heap.size w4 w5:=by rw [hw5];exact Qah
 have HW5:=Zh (show Blk w5 w4.heap.size 80 #[.slice A4 5 c4,.int .i64 44,.int .i64 k4] by rw [hw5];exact Blk.new _ _ _);have HB5:=Zh (Zb hb4 hb5);have HR5:=Zh (HR4.out.below hb5);clear hw5 hb5 hb4 HR4;with_reducible refine (HL.out w5 HB5.out 1).mono ?_
 rintro r w6 ⟨hl6,hb6⟩;obtain ⟨A6,c6,rfl,hr6⟩:=ch_leap1 hl6;have HB6:=Zh (Zb HB5.out hb6);have HR6:=Zh hr6;have HW6:=Zh (HW5.out.below hb6 HW5.out.lt);have HR56:=Zh (HR5.out.below hb6);clear hl6 hb6 hr6 HW5 HR5;go_wp2_with fail
 with_reducible refine (HL.out w6 HB6.out 0).mono ?_
 rintro r w7 ⟨hl7,hb7⟩;obtain ⟨v7,rfl,hc7⟩:=ch_leap0 hl7;obtain ⟨tv,xv,rfl⟩:=Qbd hc7;have HB7:=Zh (Zb HB6.out hb7);have HC7:=Zh hc7;have HR7:=Zh (HR6.out.below hb7);have HW7:=Zh (HW6.out.below hb7 HW6.out.lt);have HR57:=Zh (HR56.out.below hb7);clear hl7 hb7 hc7 HW6 HR6 HR56;go_wp2_with fail
 with_reducible refine (HP2.out w7 HB7.out).mono ?_
 unfold PtR;rintro r w8 ⟨⟨v,A8,n8,c8,L8,k8,rfl,hp8,hr8,_⟩,hb8⟩;obtain ⟨rfl,rfl⟩:=ch_path0 hp8;obtain rfl:n8=0:=by rw [←hr8.1];rfl
 have HB8:=Zh (Zb HB7.out hb8);have HW8:=Zh (HW7.out.below hb8 HW7.out.lt);have HR58:=Zh (HR57.out.below hb8);have HR8:=Zh (HR7.out.below hb8);have HC8:=Zh (HC7.out.below hb8);clear hp8 hr8 HP2 hb8 HW7 HR57 HR7 HC7;have z0:∀ o,(w8.alloc o).cell? ⟨w4.heap.size,0,none⟩=some (.slice A4 5 c4):=fun o=>by rw [(HW8.out.alloc o).cell];rfl
 go_wp2_with fail
 (refine Qac ?_;intro w9 hw9);have hb9:Below w8.heap.size w8 w9:=by rw [hw9];exact Qah
 have HX9:=Zh (show Blk w9 w8.heap.size 80 #[.slice A8 0 c8,.int .i64 1152921504606846976,.int .i64 k8] by rw [hw9];exact Qbi);have hS9:RdI w9 (some ⟨w8.heap.size+1,0,none⟩) 5 [0,1,2,3,4]:=Blk.rdI (t:=3) (l:=[0,1,2,3,4]) (show Blk w9 (w8.heap.size+1) 3 (Qcf [0,1,2,3,4]) by rw [hw9];exact Qbi) rfl;have HW9:=Zh (HW8.out.below hb9 HW8.out.lt);have HB9:=Zh (Zb HB8.out hb9);have HR9:=Zh (HR8.out.below hb9);have HC9:=Zh (HC8.out.below hb9);have hR59:RdI w9 A4 5 [0,1,2,3,4]:=HR58.out.below hb9;clear hw9 hb9 z0 HW8 HR58 HR8 HC8;with_reducible refine (Qjc A4 _ 5 5 c4 5 [0,1,2,3,4] [0,1,2,3,4] w9 hR59 hS9 (by omega) (by omega)).mono ?_
 rintro r wa ⟨rfl,ka,rfl⟩;have hba:Below w9.heap.size w9 (w9.drewN ka):=Qay (Zr _ _) ka;obtain ⟨wa,hwa⟩:∃ W,W=w9.drewN ka:=⟨_,rfl⟩;rw [←hwa] at hba ⊢;have HWa:=Zh (HW9.out.below hba HW9.out.lt);have HXa:=Zh (HX9.out.below hba HX9.out.lt);have HBa:=Zh (Zb HB9.out hba);have HRa:=Zh (HR9.out.below hba);have HCa:=Zh (HC9.out.below hba);obtain ⟨_,y1,y2⟩:=HWa.out.three;have d1:decide (([0,1,2,3,4]:List Int)=[0,1,2,3,4])=true:=by decide
 clear hwa hba hS9 hR59 HW9 HX9 HR9 HC9;go_wp2_with fail
 (refine Qac ?_;intro wb hwb);have hbb:Below wa.heap.size wa wb:=by rw [hwb];exact Qah
 have hSb:RdI wb (some ⟨wa.heap.size,0,none⟩) 3 [1,2,3]:=Blk.rdI (t:=3) (l:=[1,2,3]) (show Blk wb wa.heap.size 3 (Qcf [1,2,3]) by rw [hwb];exact Qbi) rfl;have HXb:=Zh (HXa.out.below hbb HXa.out.lt);have HBb:=Zh (Zb HBa.out hbb);have hRb:RdI wb A6 3 [1,2,3]:=HRa.out.below hbb;have HCb:=Zh (HCa.out.below hbb);clear hwb hbb y1 y2 d1 HWa HXa HRa HCa;with_reducible refine (Qjc A6 _ 3 3 c6 3 [1,2,3] [1,2,3] wb hRb hSb (by omega) (by omega)).mono ?_
 rintro r wc ⟨rfl,kc,rfl⟩;have hbc:Below wb.heap.size wb (wb.drewN kc):=Qay (Zr _ _) kc;obtain ⟨wc,hwc⟩:∃ W,W=wb.drewN kc:=⟨_,rfl⟩;rw [←hwc] at hbc ⊢;have HXc:=Zh (HXb.out.below hbc HXb.out.lt);have HBc:=Zh (Zb HBb.out hbc);have HCc:=Zh (HCb.out.below hbc);have d2:decide (([1,2,3]:List Int)=[1,2,3])=true:=by decide
 clear hwc hbc hSb hRb HXb HCb;go_wp2_with fail
 with_reducible refine (Qyx (⟨#[108,101,97,112]⟩:ByteArray) 2 5 wc).mono ?_
 rintro r wd ⟨_,rfl,⟨A9,n9,m9,rfl,h9,h8⟩,hbd⟩;have HXd:=Zh (HXc.out.below hbd HXc.out.lt);have HBd:=Zh (Zb HBc.out hbd);have HCd:=Zh (HCc.out.below hbd);have HR9:=Zh h9;clear h9 hbd HXc HCc d2;go_wp2_with fail
 with_reducible refine (Qqd (.iface tv xv) A9 n9 m9 [((⟨#[108,101,97,112]⟩:ByteArray),2)] 5 wd HCd.out HR9.out (by omega) (Zc (Zb HB3.out HBd.out) (Zn _) HG.out) (by omega)).mono ?_
 rintro r we ⟨rfl,hbe⟩;have HXe:=Zh (HXd.out.below hbe HXd.out.lt);have HBe:=Zh (Zb HB3.out (Zb HBd.out hbe));obtain ⟨x0,x1,_⟩:=HXe.out.three;clear hbe HXd HCd HR9;go_wp2_with fail
 go_ret;exact ⟨rfl,HBe.out⟩
end Go.Proofs.YtdheeddnkdhfeaaGreatDoor
namespace Go.Proofs.YtdheeddnkdhfeaaGreatDoor
open Go.RowKit Go.Proofs.Tryz
attribute [local go_sem ↓] Go.wp_at_zero Go.wp_at_succ
set_option maxHeartbeats 1000000 in
theorem Qvk (A B C:Option Addr)(n m k c d e:Nat)(N:Qam)(v:Int)(w:World)(h:Qbz w A B C n m k N)(hm:m≤16384) :
 Calls prog 127 #[.agg #[.slice A n c,.slice B m d,.slice C k e],.int .i64 v] w fun r w'=>∃ A' n' c',r=.returned (.slice A' n' c')∧RdI w' A' n' (idx (·.2.1) N.ar v)∧Below w.heap.size w w':=by
 have HH:=Zh h;have HM:=Zh h.2.1.1;clear h;go_enter func127,ntmps127
 go_wp2_with fail
 (refine Qaj ?_;intro w1 hw1);have hb1:Below w.heap.size w w1:=by rw [hw1];exact Qah
 have hX:Blk w1 w.heap.size 26 #[.slice A n c,.slice B m d,.slice C k e]:=by rw [hw1];exact Blk.new _ _ _
 clear hw1;go_loopw [5,6] (fun z q V=>∃ (i:Nat) (A':Option Addr) (c':Nat),i≤m∧q=.int .i64 i∧z=.slice A' (idx (·.2.1) (N.ar.take i) v).length c'∧Own V w1.heap.size 3 1 A' (idx (·.2.1) (N.ar.take i) v).length c' (Qag (idx (·.2.1) (N.ar.take i) v))∧Below w1.heap.size w1 V) (fun _ q _=>m-(intOf q).toNat)
 case atStart=>exact ⟨0,none,0,Nat.zero_le _,rfl,rfl,Own.nil _ _ _ _,Zr _ _⟩
 case round =>
  obtain ⟨i,A',c',hi,rfl,rfl,hown,hbl⟩:=hrel;have hXr:=hX.below hbl hX.lt;have x1:=hXr.cell 1;have xl:=hXr.lt;simp only [Yo,Yn,List.getElem?_cons_succ] at x1;have hbd:=Qeq (·.2.1) N.ar i v;have HOW:=Zh hown;obtain ⟨no,hno⟩:=Zx ((idx (·.2.1) (N.ar.take i) v).length);rw [←hno] at hbd ⊢;have HNO:=Zh hno;clear hown hno;by_cases hlt:i<m
  rotate_left;{(obtain rfl:i=m:=by omega);exact Kbl};{have hbw:=Zb hb1 hbl;(obtain ⟨y,hy⟩:∃ y,N.ar[i]?=some y:=⟨_,Zg (by rw [HM.out];exact hlt)⟩;obtain ⟨b,o,rfl,c0,c1,c2⟩:=(HH.out.below hbw).2.1.2 i y hy;have HY:=Zh hy;have i1:(i:Int)<m:=by omega);(have i2:0≤(i:Int):=by omega);clear hy;by_cases hv:y.2.1=v;{(have e1:(y.2.1 == v)=true:=by simpa using hv);(have hown2:=HOW.out;rw [←HNO.out] at hown2;obtain ⟨W2,hW2⟩:=Zx (wr.alloc (.cells #[.int .i64 i] 3));have hown3:Own W2 w1.heap.size 3 1 A' no c' (Qag (idx (·.2.1) (N.ar.take i) v)):=by rw [hW2];exact hown2.alloc _);(have hrd:Rds W2 1 (some ⟨wr.heap.size,0,none⟩) 1 (Qag [(i:Int)]):=by rw [hW2];exact (Blk.new wr 3 #[.int .i64 i]).rds rfl);(have hba:Below w1.heap.size w1 W2:=by rw [hW2];exact Below.alloc hbl hbl.size _);have hsz:w1.heap.size≤W2.heap.size:=hba.size;have HW2:=Zh hW2;have HE:=Zh hv;clear hW2 hown2 hv;(go_wp2_with (at_builtin;rw [←HW2.out];with_reducible refine Qal rfl (.tmp 22) (.tmp 24) 61 rfl 3 _ 1 8 Qbo underlying61 rfl (by omega) rfl rfl hown3 hrd (Qao _) (by omega) (by omega) hsz ?_));intro A3 c3 w8 ho8 hg8 _;have hb8:Below w1.heap.size w1 w8:=Zo hba hg8 hown3 hsz;have HO8:=Zh (show Own w8 w1.heap.size 3 1 A3 (no+1) c3 (Qag (idx (·.2.1) (N.ar.take (i+1)) v)) by rw [Qew HY.out,e1,if_pos rfl,Qbg];exact ho8);have HN1:=Zh (show (idx (·.2.1) (N.ar.take (i+1)) v).length=no+1 by rw [Qew HY.out,e1,if_pos rfl,Yp,←HNO.out];rfl);exact Kav};{(have e1:(y.2.1 == v)=false:=by simpa using hv);have HN1:=Zh (show idx (·.2.1) (N.ar.take (i+1)) v=idx (·.2.1) (N.ar.take i) v by rw [Qew HY.out,e1];simp);exact Kbr}}
set_option maxHeartbeats 1000000 in
theorem Qsf (A B C:Option Addr)(n m k c d e:Nat)(N:Qam)(v:Int)(w:World)(h:Qbz w A B C n m k N)(hm:m≤16384) :
 Calls prog 128 #[.agg #[.slice A n c,.slice B m d,.slice C k e],.int .i64 v] w fun r w'=>∃ A' n' c',r=.returned (.slice A' n' c')∧RdI w' A' n' (idx (·.1) N.ar v)∧Below w.heap.size w w':=by
 have HH:=Zh h;have HM:=Zh h.2.1.1;clear h;go_enter func128,ntmps128
 go_wp2_with fail
 (refine Qaj ?_;intro w1 hw1);have hb1:Below w.heap.size w w1:=by rw [hw1];exact Qah
 have hX:Blk w1 w.heap.size 26 #[.slice A n c,.slice B m d,.slice C k e]:=by rw [hw1];exact Blk.new _ _ _
 clear hw1;go_loopw [5,6] (fun z q V=>∃ (i:Nat) (A':Option Addr) (c':Nat),i≤m∧q=.int .i64 i∧z=.slice A' (idx (·.1) (N.ar.take i) v).length c'∧Own V w1.heap.size 3 1 A' (idx (·.1) (N.ar.take i) v).length c' (Qag (idx (·.1) (N.ar.take i) v))∧Below w1.heap.size w1 V) (fun _ q _=>m-(intOf q).toNat)
 case atStart=>exact ⟨0,none,0,Nat.zero_le _,rfl,rfl,Own.nil _ _ _ _,Zr _ _⟩
 case round =>
  obtain ⟨i,A',c',hi,rfl,rfl,hown,hbl⟩:=hrel;have hXr:=hX.below hbl hX.lt;have x1:=hXr.cell 1;have xl:=hXr.lt;simp only [Yo,Yn,List.getElem?_cons_succ] at x1;have hbd:=Qeq (·.1) N.ar i v;have HOW:=Zh hown;obtain ⟨no,hno⟩:=Zx ((idx (·.1) (N.ar.take i) v).length);rw [←hno] at hbd ⊢;have HNO:=Zh hno;clear hown hno;by_cases hlt:i<m
  rotate_left;{(obtain rfl:i=m:=by omega);exact Kbl};{have hbw:=Zb hb1 hbl;(obtain ⟨y,hy⟩:∃ y,N.ar[i]?=some y:=⟨_,Zg (by rw [HM.out];exact hlt)⟩;obtain ⟨b,o,rfl,c0,c1,c2⟩:=(HH.out.below hbw).2.1.2 i y hy;have HY:=Zh hy;have i1:(i:Int)<m:=by omega);(have i2:0≤(i:Int):=by omega);clear hy;by_cases hv:y.1=v;{(have e1:(y.1 == v)=true:=by simpa using hv);(have hown2:=HOW.out;rw [←HNO.out] at hown2;obtain ⟨W2,hW2⟩:=Zx (wr.alloc (.cells #[.int .i64 i] 3));have hown3:Own W2 w1.heap.size 3 1 A' no c' (Qag (idx (·.1) (N.ar.take i) v)):=by rw [hW2];exact hown2.alloc _);(have hrd:Rds W2 1 (some ⟨wr.heap.size,0,none⟩) 1 (Qag [(i:Int)]):=by rw [hW2];exact (Blk.new wr 3 #[.int .i64 i]).rds rfl);(have hba:Below w1.heap.size w1 W2:=by rw [hW2];exact Below.alloc hbl hbl.size _);have hsz:w1.heap.size≤W2.heap.size:=hba.size;have HW2:=Zh hW2;have HE:=Zh hv;clear hW2 hown2 hv;(go_wp2_with (at_builtin;rw [←HW2.out];with_reducible refine Qal rfl (.tmp 22) (.tmp 24) 61 rfl 3 _ 1 8 Qbo underlying61 rfl (by omega) rfl rfl hown3 hrd (Qao _) (by omega) (by omega) hsz ?_));intro A3 c3 w8 ho8 hg8 _;have hb8:Below w1.heap.size w1 w8:=Zo hba hg8 hown3 hsz;have HO8:=Zh (show Own w8 w1.heap.size 3 1 A3 (no+1) c3 (Qag (idx (·.1) (N.ar.take (i+1)) v)) by rw [Qew HY.out,e1,if_pos rfl,Qbg];exact ho8);have HN1:=Zh (show (idx (·.1) (N.ar.take (i+1)) v).length=no+1 by rw [Qew HY.out,e1,if_pos rfl,Yp,←HNO.out];rfl);exact Kav};{(have e1:(y.1 == v)=false:=by simpa using hv);have HN1:=Zh (show idx (·.1) (N.ar.take (i+1)) v=idx (·.1) (N.ar.take i) v by rw [Qew HY.out,e1];simp);exact Kbr}}
set_option maxHeartbeats 2000000 in
theorem Qvm (A B C:Option Addr)(n m k c d e:Nat)(N:Qam)(a b:Nat)(x y:Tri)(w:World)(h:Qbz w A B C n m k N)(hok:Qap N) (hx:N.ar[a]?=some x) (hy:N.ar[b]?=some y) :
 Calls prog 73 #[.agg #[.slice A n c,.slice B m d,.slice C k e],.int .i64 a,.int .i64 b] w fun r w'=>r=.returned (.int .i64 (Qai N a b))∧Below w.heap.size w w':=by
 have HH:=Zh h;have hm:m≤16384:=by rw [←h.2.1.1];exact hok.la
 have hlm:N.ar.length=m:=h.2.1.1;have hln:N.vs.length=n:=h.1.1;have hn4:=hok.lv;have hla:=(Zs hx).1;have hlb:=(Zs hy).1;have hax:=hok.arcs x (Zm hx);obtain ⟨bb,o,x1,x2,x3,rfl,hx',ax,ay,az⟩:=h.2.1.at_ (i:=a) (by omega);rw [hx] at hx';cases hx';obtain ⟨bb',o',y1,y2,y3,e',hy',bx,by_,bz⟩:=h.2.1.at_ (i:=b) (by omega);cases e';rw [hy] at hy';cases hy';have i1:0≤(a:Int):=by omega
 have i2:(a:Int)<m:=by omega
 have i3:0≤(b:Int):=by omega
 have i4:(b:Int)<m:=by omega
 obtain ⟨v,rfl⟩:∃ v:Nat,x2=(v:Int):=⟨x2.toNat,by have:=hax.g0;simp only at this;omega⟩;have hvn:v<n:=by have:=hax.g1;simp only at this;omega
 obtain ⟨b2,o2,v1,v2,v3,hA2,hv,vx,vy,vz⟩:=h.1.at_ (i:=v) hvn;subst hA2;have hvo:=hok.verts _ (Zm hv);obtain ⟨t,rfl⟩:∃ t:Nat,v3=(t:Int):=⟨v3.toNat,by have:=hvo.t0;simp only at this;omega⟩;have htl:N.ts.length=k:=h.2.2.1;have htk:t<k:=by have:=hvo.t1;simp only at this;omega
 obtain ⟨b3,o3,tb,hA3,htb,t0,t1,AT,nT,cT,t2,hrd,hnT,hcT⟩:=h.2.2.at_ htk;subst hA3;have hto:=hok.tabs tb (Zm htb);have hk:=hok.lt;have hmt:=hok.meet v _ tb hv (by simpa using htb);obtain ⟨i,hi⟩:∃ i:Nat,i=(idx (·.2.1) (N.ar.take a) (v:Int)).length:=⟨_,rfl⟩;have hip:(i:Int)<tb.ins:=by rw [←hmt.1,hi];exact_mod_cast Qgx (f:=(·.2.1)) hx rfl
 obtain ⟨q,hq⟩:∃ q:Nat,q=(idx (·.1) (N.ar.take b) y1).length:=⟨_,rfl⟩;have hqp:y1=(v:Int)→(q:Int)<tb.outs:=fun e=>by rw [←hmt.2,hq,e];exact_mod_cast Qgx (f:=(·.1)) hy e
 have hpi:plI (idx (·.2.1) N.ar (v:Int)) (a:Int)=(i:Int):=by rw [hi];exact Qrz (f:=(·.2.1)) hx
 have hpq:y1=(v:Int)→plI (idx (·.1) N.ar (v:Int)) (b:Int)=(q:Int):=fun e=>by rw [hq,←e];exact Qrz (f:=(·.1)) hy
 have HTN:=Zh (show ∀ z,y1=(v:Int)→tb.costs[i*tb.outs.toNat+q]?=some z→Qai N a b=z from fun z e hz=>by
  unfold Qai;rw [hx,hy];simp only [if_pos e.symm,Yl,hv,htb,Qha,←hi,←hq];rw [Ya,hz]
  rfl)
 have i5:0≤(v:Int):=by omega
 have i6:(v:Int)<n:=by omega
 have i7:0≤(t:Int):=by omega
 have i8:(t:Int)<k:=by omega
 have hil:(idx (·.2.1) N.ar (v:Int)).length≤16384:=by have:=Qeq (·.2.1) N.ar N.ar.length (v:Int);rw [List.take_length] at this;omega
 have hol:(idx (·.1) N.ar (v:Int)).length≤16384:=by have:=Qeq (·.1) N.ar N.ar.length (v:Int);rw [List.take_length] at this;omega
 have HTA:=Zh (fun V (hV:Below w.heap.size w V) (e:y1=(v:Int))=>Qjb AT nT cT tb i q V (hrd.below hV) hto hip (hqp e));have HIN:=Zh (fun V (hV:Below w.heap.size w V)=>Qvk _ _ _ n m k c d e N (v:Int) V (HH.out.below hV) hm);have HOU:=Zh (fun V (hV:Below w.heap.size w V)=>Qsf _ _ _ n m k c d e N (v:Int) V (HH.out.below hV) hm);have HPI:=Zh hpi;have HPQ:=Zh hpq;have HIL:=Zh hil;have HOL:=Zh hol
 have HMM:=Zh (show (v:Int)≠y1→Qai N a b=1152921504606846976 from fun hne=>by
  unfold Qai;rw [hx,hy];simp only [if_neg hne])
 have HY:=Zh (show ∀ V,Below w.heap.size w V→V.cell? ⟨bb,o+a*3+1,none⟩=some (.int .i64 (v:Int))∧V.cell? ⟨bb,o+b*3,none⟩=some (.int .i64 y1) ∧
  V.cell? ⟨b2,o2+v*3+2,none⟩=some (.int .i64 t) ∧
  V.cell? ⟨b3,o3+t*3,none⟩=some (.int .i64 tb.ins)∧V.cell? ⟨b3,o3+t*3+1,none⟩=some (.int .i64 tb.outs)∧V.cell? ⟨b3,o3+t*3+2,none⟩=some (.slice AT nT cT) from
  fun V hV=>⟨Zc hV (Zn _) ay,Zc hV (Zn _) bx,Zc hV (Zn _) vz,Zc hV (Zn _) t0,Zc hV (Zn _) t1,Zc hV (Zn _) t2⟩)
 clear vx vy vz t0 t1 t2 hrd hip hqp hmt hv htb hi hq hpi hpq hil hol hto hvo hax hok hnT hcT;clear h ax ay az bx by_ bz hx hy;go_enter func73,ntmps73
 go_wp2_with fail
 (refine Qaj ?_;intro w1 hw1);have hb1:Below w.heap.size w w1:=by rw [hw1];exact Qah
 have hX:Blk w1 w.heap.size 26 #[.slice (some ⟨b2,o2,none⟩) n c,.slice (some ⟨bb,o,none⟩) m d,.slice (some ⟨b3,o3,none⟩) k e]:=by rw [hw1];exact Blk.new _ _ _
 clear hw1
 have HSX:=Zh (show ∀ V,Below w1.heap.size w1 V→V.cell? ⟨w.heap.size,0,none⟩=some (.slice (some ⟨b2,o2,none⟩) n c)∧V.cell? ⟨w.heap.size,1,none⟩=some (.slice (some ⟨bb,o,none⟩) m d)∧V.cell? ⟨w.heap.size,2,none⟩=some (.slice (some ⟨b3,o3,none⟩) k e)∧_ from
  fun V hV=>⟨by rw [(hX.below hV hX.lt).cell];rfl,by rw [(hX.below hV hX.lt).cell];rfl,by rw [(hX.below hV hX.lt).cell];rfl,HY.out V (Zb hb1 hV)⟩)
 clear HY hX;refine wp_region_held_drew (S:=fun V=>Below w1.heap.size w1 V) (by kernel_rfl) (Zr _ _).drew (fun _=>?_);refine tzb 0 8 ?_;refine Zk 2 (fun K hK=>?_);go_simp;with_reducible refine (Qcy _ _ _ n m k c d e (a:Int) _ i1 i2).mono ?_
 rintro r w2 ⟨rfl,hb2⟩;have hb2':Below w1.heap.size w1 w2:=(Zr _ _).drew.trans hb2;clear hb2;go_simp;refine hK.out _ _ hb2' (fun _=>?_);clear hK K;refine tzd 3 11 ?_;refine Zk 7 (fun K hK=>?_);go_simp;with_reducible refine (Qcy _ _ _ n m k c d e (b:Int) _ i3 i4).mono ?_
 rintro r w3 ⟨rfl,hb3⟩;have hb3':=Zb hb2' hb3;clear hb2' hb3;go_simp;refine hK.out _ _ hb3' (fun _=>?_);clear hK K;refine tzd 8 16 ?_;refine tzd 12 20 ?_;refine tzd 16 24 ?_;refine tzd 20 28 ?_;refine tz 24 32 ?_;refine Zd ?_;by_cases hxy:(v:Int)=y1;rotate_left;{(have e1:((v:Int) != y1)=true:=by simp [hxy]);have HE:=Zh (HMM.out hxy);clear hxy;(go_wp2_with fail);go_ret;rw [HE.out];exact ⟨rfl,Zb hb1 hb3'⟩};have e1:((v:Int) != y1)=false:=by simp [hxy]
 subst hxy;have HSXO:=HSX;have hc:=HSX.out w3 hb3';go_split_ands
 clear HSX;have HSX:=HSXO;clear HSXO;go_wp2_with fail
 refine wp_region_held_drew (S:=fun V=>Below w1.heap.size w1 V) (by kernel_rfl) hb3'.drew (fun _=>?_);refine tzd 0 39 ?_;refine tzd 4 43 ?_;refine tzd 8 47 ?_;refine tz 13 52 ?_;refine tzb 15 54 ?_;refine tz 18 57 ?_;refine Zk 12 (fun K hK=>?_);go_simp;with_reducible refine (HIN.out _ (Zb hb1 hb3'.drew)).mono ?_
 rintro r w4 ⟨A4,n4,c4,rfl,h4,hb4⟩;have hb4':Below w1.heap.size w1 w4:=Zb hb3'.drew hb4;have H4:=Zh h4;have hn4l:n4≤1000000000:=by have:=HIL.out;have:=h4.1;omega
 clear h4 hb4;go_simp;refine hK.out _ _ hb4' (fun _=>?_);clear hK K;refine Zk 14 (fun K hK=>?_);go_simp;with_reducible refine (Qer A4 n4 c4 _ (a:Int) w4 H4.out hn4l).mono ?_
 rintro r w' ⟨rfl,rfl⟩;rw [HPI.out];go_simp;refine hK.out _ _ hb4' (fun _=>?_);clear hK K;refine Zk 17 (fun K hK=>?_);go_simp;with_reducible refine (HOU.out _ (Zb hb1 hb4')).mono ?_
 rintro r w5 ⟨A5,n5,c5,rfl,h5,hb5⟩;have hb5':Below w1.heap.size w1 w5:=Zb hb4' hb5;have H5:=Zh h5;have hn5l:n5≤1000000000:=by have:=HOL.out;have:=h5.1;omega
 clear h5 hb5;go_simp;refine hK.out _ _ hb5' (fun _=>?_);clear hK K;refine Zk 19 (fun K hK=>?_);go_simp;with_reducible refine (Qer A5 n5 c5 _ (b:Int) w5 H5.out hn5l).mono ?_
 rintro r w' ⟨rfl,rfl⟩;rw [HPQ.out trivial];go_simp;refine hK.out _ _ hb5' (fun _=>?_);clear hK K;refine Zk 20 (fun K hK=>?_);go_simp;with_reducible refine (HTA.out _ (Zb hb1 hb5') trivial).mono ?_
 rintro r w6 ⟨z,hz,rfl,hb6⟩;have hb6':Below w1.heap.size w1 w6:=Zb hb5' hb6;have HZ:=Zh (HTN.out z trivial hz);clear hz hb6;go_simp;refine hK.out _ _ hb6' (fun _=>?_);clear hK K;refine tz 21 6 ?_;refine Zd ?_;go_wp2_with fail
 go_ret;rw [HZ.out];exact ⟨rfl,Zb hb1 hb6'⟩
theorem Qed.inv {St:Qbf}{s p:Nat}{c:Int}{L:List Nat}(h:Qed St s p c L):(L=[]∧p=s∧c=0)∨∃ p' c' d l',L=l' ++[p]∧c=c'+d∧Qed St s p' c' l'∧St p' p d:=by
 cases h with
 | start=>exact .inl ⟨rfl,rfl,rfl⟩
 | step h1 h2=>exact .inr ⟨_,_,_,_,rfl,rfl,h1,h2⟩
theorem Qed.fn {St:Qbf}(hf:∀ p q d d',St p q d→St p q d'→d=d'){s p:Nat}{c:Int}{L:List Nat}(h:Qed St s p c L):∀ {p':Nat} {c':Int},Qed St s p' c' L→p=p'∧c=c':=by
 induction h with
 | start =>
  intro p' c' g;rcases g.inv with ⟨_,rfl,rfl⟩|⟨_,_,_,l',e,_⟩
  {exact ⟨rfl,rfl⟩};{simp at e}
 | @step p q c d l h1 h2 ih =>
  intro p' c' g;rcases g.inv with ⟨e,_⟩|⟨r,c2,d2,l',e,rfl,g1,g2⟩
  {simp at e};{obtain ⟨e1,e2⟩:=List.append_inj' e rfl;(subst e1;obtain rfl:q=p':=by simpa using e2);obtain ⟨rfl,rfl⟩:=ih g1;exact ⟨rfl,by rw [hf _ _ _ _ h2 g2]⟩}
theorem StW.fn {N:Qam}{p q:Nat}{d d':Int}(h:StW N p q d)(g:StW N p q d'):d=d':=by obtain ⟨y,hy,_,_,rfl⟩:=h;obtain ⟨z,hz,_,_,rfl⟩:=g;rw [hy] at hz;cases hz;rfl
theorem Qed.pair {St:Qbf}{s t:Nat}{v:Int}{l:List Nat}(h:Qed St s t v l):∀ (i q:Nat),l[i]?=some q→∃ p c d,(s::l)[i]?=some p∧Qed St s p c (l.take i)∧St p q d:=by
 induction h with
 | start=>intro i q hq;simp at hq
 | @step p r c d l h1 h2 ih =>
  intro i q hq;have hi:=(Zs hq).1;rw [Yp,List.length_singleton] at hi;rcases Nat.lt_or_ge i l.length with h3|h3
  {rw [Yc h3] at hq;obtain ⟨p',c',d',g1,g2,g3⟩:=ih i q hq;refine ⟨p',c',d',?_,by rw [List.take_append_of_le_length (by omega)];exact g2,g3⟩;rw [←List.cons_append,Yc (by simp;omega)];exact g1};{(obtain rfl:i=l.length:=by omega);(rw [Yb (Zn _),Yy] at hq;obtain rfl:r=q:=by simpa using hq);refine ⟨p,c,d,?_,by rw [List.take_append_of_le_length (Zn _),List.take_length];exact h1,h2⟩;rw [←List.cons_append,Yc (by simp)];(rcases h1.inv with ⟨rfl,rfl,_⟩|⟨_,_,_,l',rfl,_⟩);{rfl};{rw [Yp,List.length_singleton,List.getElem?_cons_succ,Yb (Zn _),Yy];rfl}}
section
variable (w:World) (A B C:Option Addr) (n m k c d e:Nat) (N:Qam) (X:Option Addr) (nx cx s t:Nat) (v:Int) (l:List Nat)
end
set_option maxHeartbeats 1000000 in
theorem Qvj (xA xB xC xQ xG:Value)(AE:Option Addr)(S ce k e1 e2 e3 e4:Nat)(EL:List Ent)(w:World) (h:Rds w 4 AE S (Qep EL)) (hS:EL.length=S) (hS2:S≤1000000000) (hk:EL[k]?=some (e1,e2,e3,e4)) (hu:∀ i f,i<k→EL[i]?=some f→f≠(e1,e2,e3,e4)) :
 Calls prog 75 #[.agg #[xA,xB,xC,xQ,xG,.slice AE S ce],.int .i64 ((e1:Int)+1),.int .i64 e2,.int .i64 e3,.int .i64 e4] w fun e w'=>e=.returned (.int .i64 k)∧Below w.heap.size w w':=by
 have hkS:k<S:=by rw [←hS];exact (Zs hk).1
 have HE:=Zh h;have HK:=Zh hk;have HU:=Zh hu;have HS:=Zh hS;clear h hk hu hS;go_enter func75,ntmps75
 go_wp2_with fail
 (refine Qaj ?_;intro w1 hw1);have HB1:=Zh (show Below w.heap.size w w1 by rw [hw1];exact Qah);have HX:=Zh (show Blk w1 w.heap.size 57 #[xA,xB,xC,xQ,xG,.slice AE S ce] by rw [hw1];refine Blk.new' _ _ _ ?_;rfl);clear hw1;go_loopw [11] (fun q W=>∃ i:Nat,i≤k∧q=.int .i64 i∧Below w1.heap.size w1 W) (fun q _=>k+1-(intOf q).toNat)
 case atStart=>exact ⟨0,Nat.zero_le _,rfl,Zr _ _⟩
 case round =>
  obtain ⟨i,hi,rfl,hbl⟩:=hrel;have hXr:=HX.out.below hbl HX.out.lt;have HBL:=Zh (Zb HB1.out hbl);have x5:wr.cell? ⟨w.heap.size,5,none⟩=some (.slice AE S ce):=Zq hXr;obtain ⟨⟨il,iq,ia,ib⟩,he⟩:∃ e,EL[i]?=some e:=⟨_,Zg (by rw [HS.out];omega)⟩;have hEr:=HE.out.below HBL.out;have hc:=fun (q:Nat) (u:Value) (hq:q<4) (hu:(Qhj (il,iq,ia,ib))[q]?=some u)=>hEr.2 (i*4+q) u (by rw [Qkf EL i _ he q hq];exact hu)
  obtain ⟨eb,eo,rfl,c0⟩:=hc 0 _ (by omega) rfl;obtain ⟨_,_,g1,c1⟩:=hc 1 _ (by omega) rfl;cases g1;obtain ⟨_,_,g2,c2⟩:=hc 2 _ (by omega) rfl;cases g2;obtain ⟨_,_,g3,c3⟩:=hc 3 _ (by omega) rfl;cases g3;rw [←Nat.add_assoc] at c0 c1 c2 c3;rw [Nat.add_zero] at c0;simp only at c0 c1 c2 c3;have j1:(i:Int)<S:=by omega
  have j2:0≤(i:Int):=by omega
  by_cases hlt:i<k
  {have hne:¬((il:Int)+1=e1+1∧(iq:Int)=e2∧(ia:Int)=e3∧(ib:Int)=e4):=fun ⟨g1,g2,g3,g4⟩=>by{refine HU.out i _ hlt he ?_;rw [show il=e1 by omega,show iq=e2 by omega,show ia=e3 by omega,show ib=e4 by omega]};clear he hEr hc hXr;(go_wp2_with fail);(all_goals (try exact absurd ⟨by omega,by omega,by omega,by omega⟩ hne));all_goals exact ⟨⟨i+1,by omega,by go_num,hbl⟩,by simp [intOf];omega⟩};{(obtain rfl:i=k:=by omega);have he':=HK.out;rw [he] at he';cases he';clear he hEr hc hXr;(go_wp2_with fail);go_ret;exact ⟨rfl,HBL.out⟩}
theorem Qky (Q:Option Addr)(L cq:Nat)(lv:Int)(w:World) (h:¬(1≤lv∧lv≤(L:Int))) :
 Calls prog 67 #[.agg #[.slice Q L cq],.int .i64 lv] w fun r w'=>r=.returned (.bool false)∧Below w.heap.size w w':=by by_cases i1:1≤lv;{(have i2:¬lv≤(L:Int):=fun h2=>h ⟨i1,h2⟩);clear h;(go_enter func67,ntmps67);exact Kbs};{clear h;(go_enter func67,ntmps67);exact Kbs}
set_option maxHeartbeats 2000000 in
theorem Qeb (A B C Q:Option Addr)(n m k c d e L cq:Nat)(N:Qam) (ls:List (List Int)) (lv a:Int) (w:World) (h:Qbz w A B C n m k N) (hok:Qap N) (hq:RdT w Q L ls) (hP:Qat N.vs.length ls) :
 Calls prog 68 #[.agg #[.slice A n c,.slice B m d,.slice C k e],.agg #[.slice Q L cq],.int .i64 lv,.int .i64 a] w fun r w'=>r=.returned (.int .i64 (enF N ls lv a))∧Below w.heap.size w w':=by
 have hL6:L≤6:=by rw [←hq.1];exact hP.l6
 have HLL:=Zh hq.1;have HM:=Zh h.2.1.1;have hm:m≤16384:=by rw [←h.2.1.1];exact hok.la
 have HH:=Zh h;have HT:=Zh hq;have HOK:=Zh hok;have HP:=Zh hP;clear h hok hq hP;by_cases hr:1≤lv∧lv≤(L:Int);rotate_left;{have HZ:=Zh (show enF N ls lv a = -1 by unfold enF;rw [Qgr (fun h=>hr ⟨h.1,by rw [←HLL.out];exact h.2.1⟩)]);have HHA:=Zh (fun V=>Qky Q L cq lv V hr);clear hr;(go_enter func68,ntmps68);(go_wp2_with fail);(refine Qac ?_;intro w1 hw1);have HB1:=Zh (show Below w.heap.size w w1 by rw [hw1];exact Qah);exact Kbv};obtain ⟨j,rfl⟩:∃ j:Nat,lv=(j:Int)+1:=⟨(lv-1).toNat,by omega⟩;have hj:j<L:=by omega
 clear hr;obtain ⟨qb,qo,A1,n1,c1,l,rfl,hl,q1,q2,_,_⟩:=HT.out.at_ (i:=j) hj;have HLV:=Zh (HP.out.lvl l (Zm hl));obtain rfl:n1=N.vs.length:=by rw [←q2.1];exact HLV.out.len
 have HQ1:=Zh q1;have HQ2:=Zh q2;have HL:=Zh hl;have HHA:=Zh (fun V=>Qfo (some ⟨qb,qo,none⟩) L cq j V hj);have HCR:=Zh (fun V (hV:Below w.heap.size w V)=>Qhn A B C (some ⟨qb,qo,none⟩) n m k c d e L cq j N ls l V (HH.out.below hV) HOK.out (HT.out.below hV) hl HLV.out.len (by omega));have hcl:(Qas N.ar l).length≤16384:=Yx (Qfv _ _) HOK.out.la;clear q1 q2;go_enter func68,ntmps68
 go_wp2_with fail
 (refine Qac ?_;intro w1 hw1);have HB1:=Zh (show Below w.heap.size w w1 by rw [hw1];exact Qah);have hX:Blk w1 w.heap.size 26 #[.slice A n c,.slice B m d,.slice C k e]:=by rw [hw1];exact Qbi
 have hY:Blk w1 (w.heap.size+1) 29 #[.slice (some ⟨qb,qo,none⟩) L cq]:=by rw [hw1];exact Qbi
 clear hw1 hl;with_reducible refine (HHA.out w1).mono ?_
 rintro r w2 ⟨rfl,hb2⟩;have hX2:=hX.below hb2 hX.lt;have hY2:=hY.below hb2 hY.lt;have HB2:=Zh (Zb HB1.out hb2);clear hb2 hX hY;obtain ⟨x0,x1,x2⟩:=hX2.three;have y0:=hY2.cell 0;simp only [Yo,Yn] at y0;go_wp2_with fail
 with_reducible refine (HCR.out w2 HB2.out).mono ?_
 rintro r w3 ⟨A3,n3,c3,rfl,h3,_,hb3⟩;have HX3:=Zh (hX2.below hb3 hX2.lt);have HY3:=Zh (hY2.below hb3 hY2.lt);have HB3:=Zh (Zb HB2.out hb3);have HPL:=Zh (Qer A3 n3 c3 _ a w3 h3 (by rw [←h3.1];omega));clear hb3 h3 hX2 hY2 x0 x1 x2 y0;go_wp2_with fail
 with_reducible refine HPL.out.mono ?_
 rintro r w' ⟨rfl,rfl⟩;by_cases hin:a∈Qas N.ar l;rotate_left
 · have HZ:=Zh (show enF N ls ((j:Int)+1) a = -1 by
    unfold enF
    cases hc:Qen N ls ((j:Int)+1) a with
    | none=>rfl
    | some p =>
     obtain ⟨j',b,l',y,ej,rfl,hl',hy,hne,_⟩:=Qfw hc;obtain rfl:j=j':=by omega
     rw [HL.out] at hl'
     cases hl'
     exact absurd (Qde.2 ⟨b,y,rfl,hy,hne⟩) hin)
   rw [Qcr hin];clear hin;(go_wp2_with fail);go_ret;rw [HZ.out];exact ⟨rfl,HB3.out⟩
 obtain ⟨p,hp,_⟩:=Qgn hin;obtain ⟨i,y,rfl,hy,hne⟩:=Qde.1 hin;rw [hp];have HZ:=Zh (show enF N ls ((j:Int)+1) (i:Int)=Qaa l (y.2.1) by unfold enF;rw [Qee HL.out hy,if_neg hne]);have him:i<m:=by rw [←HM.out];exact (Zs hy).1
 obtain ⟨u,v,e1,e2,hu,hv⟩:=Qda HOK.out hy;obtain ⟨ab,ao,rfl,d0,d1,d2⟩:=(HH.out.below HB3.out).2.1.2 i y hy;have hlen:=HLV.out.len;obtain ⟨lb,lo,z,rfl,hz,cz⟩:=(HQ2.out.below HB3.out).at_ (i:=v) (by omega);have HZZ:=Zh (show Qaa l (y.2.1)=z by rw [e2];exact Qba hz);have hqc:=Zc HB3.out (Zn _) HQ1.out;rw [e2] at d1;have i1:¬((p:Int)<0):=by omega
 have i5:(j:Int)+1-1=j:=by omega
 have i6:(j:Int)<L:=by omega
 have i7:0≤(j:Int):=by omega
 have wl:IntKind.i64.wrap (j:Int)=(j:Int):=IntWalk.i64_in _ (by omega);have k1:(i:Int)<m:=by omega
 have k2:0≤(i:Int):=by omega
 have k3:((v:Nat):Int)<(N.vs.length:Int):=by omega
 have k4:(0:Int)≤((v:Nat):Int):=by omega
 have HSX:=Zh (show ∀ V,Below w3.heap.size w3 V→V.cell? ⟨w.heap.size,1,none⟩=some (.slice (some ⟨ab,ao,none⟩) m d)∧V.cell? ⟨w.heap.size+1,0,none⟩=some (.slice (some ⟨qb,qo,none⟩) L cq)∧V.cell? ⟨qb,qo+j,none⟩=some (.slice (some ⟨lb,lo,none⟩) N.vs.length c1)∧V.cell? ⟨ab,ao+i*3+1,none⟩=some (.int .i64 (v:Nat))∧V.cell? ⟨lb,lo+v,none⟩=some (.int .i64 z) from
  fun V hV=>⟨by rw [(HX3.out.below hV HX3.out.lt).cell];rfl,by rw [(HY3.out.below hV HY3.out.lt).cell];rfl,Zc hV (Zn _) hqc,Zc hV (Zn _) d1,Zc hV (Zn _) cz⟩)
 exact Kaw
set_option maxHeartbeats 2000000 in
theorem Qga (A B C Q:Option Addr)(n m k c d e L cq:Nat)(N:Qam) (ls:List (List Int)) (lv a:Int) (w:World) (h:Qbz w A B C n m k N) (hok:Qap N) (hq:RdT w Q L ls) (hP:Qat N.vs.length ls) :
 Calls prog 69 #[.agg #[.slice A n c,.slice B m d,.slice C k e],.agg #[.slice Q L cq],.int .i64 lv,.int .i64 a] w fun r w'=>r=.returned (.int .i64 (leF N ls lv a))∧Below w.heap.size w w':=by
 have hL6:L≤6:=by rw [←hq.1];exact hP.l6
 have HLL:=Zh hq.1;have HM:=Zh h.2.1.1;have hm:m≤16384:=by rw [←h.2.1.1];exact hok.la
 have HH:=Zh h;have HT:=Zh hq;have HOK:=Zh hok;have HP:=Zh hP;clear h hok hq hP;by_cases hr:1≤lv∧lv≤(L:Int);rotate_left;{have HZ:=Zh (show leF N ls lv a = -1 by unfold leF;rw [Qgr (fun h=>hr ⟨h.1,by rw [←HLL.out];exact h.2.1⟩)]);have HHA:=Zh (fun V=>Qky Q L cq lv V hr);clear hr;(go_enter func69,ntmps69);(go_wp2_with fail);(refine Qac ?_;intro w1 hw1);have HB1:=Zh (show Below w.heap.size w w1 by rw [hw1];exact Qah);exact Kbv};obtain ⟨j,rfl⟩:∃ j:Nat,lv=(j:Int)+1:=⟨(lv-1).toNat,by omega⟩;have hj:j<L:=by omega
 clear hr;obtain ⟨qb,qo,A1,n1,c1,l,rfl,hl,q1,q2,_,_⟩:=HT.out.at_ (i:=j) hj;have HLV:=Zh (HP.out.lvl l (Zm hl));obtain rfl:n1=N.vs.length:=by rw [←q2.1];exact HLV.out.len
 have HQ1:=Zh q1;have HQ2:=Zh q2;have HL:=Zh hl;have HHA:=Zh (fun V=>Qfo (some ⟨qb,qo,none⟩) L cq j V hj);have HCR:=Zh (fun V (hV:Below w.heap.size w V)=>Qhn A B C (some ⟨qb,qo,none⟩) n m k c d e L cq j N ls l V (HH.out.below hV) HOK.out (HT.out.below hV) hl HLV.out.len (by omega));have hcl:(Qas N.ar l).length≤16384:=Yx (Qfv _ _) HOK.out.la;clear q1 q2;go_enter func69,ntmps69
 go_wp2_with fail
 (refine Qac ?_;intro w1 hw1);have HB1:=Zh (show Below w.heap.size w w1 by rw [hw1];exact Qah);have hX:Blk w1 w.heap.size 26 #[.slice A n c,.slice B m d,.slice C k e]:=by rw [hw1];exact Qbi
 have hY:Blk w1 (w.heap.size+1) 29 #[.slice (some ⟨qb,qo,none⟩) L cq]:=by rw [hw1];exact Qbi
 clear hw1 hl;with_reducible refine (HHA.out w1).mono ?_
 rintro r w2 ⟨rfl,hb2⟩;have hX2:=hX.below hb2 hX.lt;have hY2:=hY.below hb2 hY.lt;have HB2:=Zh (Zb HB1.out hb2);clear hb2 hX hY;obtain ⟨x0,x1,x2⟩:=hX2.three;have y0:=hY2.cell 0;simp only [Yo,Yn] at y0;go_wp2_with fail
 with_reducible refine (HCR.out w2 HB2.out).mono ?_
 rintro r w3 ⟨A3,n3,c3,rfl,h3,_,hb3⟩;have HX3:=Zh (hX2.below hb3 hX2.lt);have HY3:=Zh (hY2.below hb3 hY2.lt);have HB3:=Zh (Zb HB2.out hb3);have HPL:=Zh (Qer A3 n3 c3 _ a w3 h3 (by rw [←h3.1];omega));clear hb3 h3 hX2 hY2 x0 x1 x2 y0;go_wp2_with fail
 with_reducible refine HPL.out.mono ?_
 rintro r w' ⟨rfl,rfl⟩;by_cases hin:a∈Qas N.ar l;rotate_left
 · have HZ:=Zh (show leF N ls ((j:Int)+1) a = -1 by
    unfold leF
    cases hc:Qen N ls ((j:Int)+1) a with
    | none=>rfl
    | some p =>
     obtain ⟨j',b,l',y,ej,rfl,hl',hy,hne,_⟩:=Qfw hc;obtain rfl:j=j':=by omega
     rw [HL.out] at hl'
     cases hl'
     exact absurd (Qde.2 ⟨b,y,rfl,hy,hne⟩) hin)
   rw [Qcr hin];clear hin;(go_wp2_with fail);go_ret;rw [HZ.out];exact ⟨rfl,HB3.out⟩
 obtain ⟨p,hp,_⟩:=Qgn hin;obtain ⟨i,y,rfl,hy,hne⟩:=Qde.1 hin;rw [hp];have HZ:=Zh (show leF N ls ((j:Int)+1) (i:Int)=Qaa l (y.1) by unfold leF;rw [Qee HL.out hy,if_neg hne]);have him:i<m:=by rw [←HM.out];exact (Zs hy).1
 obtain ⟨u,v,e1,e2,hu,hv⟩:=Qda HOK.out hy;obtain ⟨ab,ao,rfl,d0,d1,d2⟩:=(HH.out.below HB3.out).2.1.2 i y hy;have hlen:=HLV.out.len;obtain ⟨lb,lo,z,rfl,hz,cz⟩:=(HQ2.out.below HB3.out).at_ (i:=u) (by omega);have HZZ:=Zh (show Qaa l (y.1)=z by rw [e1];exact Qba hz);have hqc:=Zc HB3.out (Zn _) HQ1.out;rw [e1] at d0;have i1:¬((p:Int)<0):=by omega
 have i5:(j:Int)+1-1=j:=by omega
 have i6:(j:Int)<L:=by omega
 have i7:0≤(j:Int):=by omega
 have wl:IntKind.i64.wrap (j:Int)=(j:Int):=IntWalk.i64_in _ (by omega);have k1:(i:Int)<m:=by omega
 have k2:0≤(i:Int):=by omega
 have k3:((u:Nat):Int)<(N.vs.length:Int):=by omega
 have k4:(0:Int)≤((u:Nat):Int):=by omega
 have HSX:=Zh (show ∀ V,Below w3.heap.size w3 V→V.cell? ⟨w.heap.size,1,none⟩=some (.slice (some ⟨ab,ao,none⟩) m d)∧V.cell? ⟨w.heap.size+1,0,none⟩=some (.slice (some ⟨qb,qo,none⟩) L cq)∧V.cell? ⟨qb,qo+j,none⟩=some (.slice (some ⟨lb,lo,none⟩) N.vs.length c1)∧V.cell? ⟨ab,ao+i*3,none⟩=some (.int .i64 (u:Nat))∧V.cell? ⟨lb,lo+u,none⟩=some (.int .i64 z) from
  fun V hV=>⟨by rw [(HX3.out.below hV HX3.out.lt).cell];rfl,by rw [(HY3.out.below hV HY3.out.lt).cell];rfl,Zc hV (Zn _) hqc,Zc hV (Zn _) d0,Zc hV (Zn _) cz⟩)
 exact Kaw
end Go.Proofs.YtdheeddnkdhfeaaGreatDoor
