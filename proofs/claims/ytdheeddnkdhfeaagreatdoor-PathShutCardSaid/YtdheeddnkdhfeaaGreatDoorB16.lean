/- Parts of the proof: AsR, AsM, LsP, RfT, RoI, AsC, AsN, AsO, AsS. -/
import Derived.Test.YtdheeddnkdhfeaaGreatDoorB15
namespace Go.Proofs.YtdheeddnkdhfeaaGreatDoor
open Go.RowKit Go.Proofs.Tryz
attribute [local go_sem ↓] Go.wp_at_zero Go.wp_at_succ
structure QR (V:World) (qb g o:Nat) (N:Qal) (ls:List (List Int)) (s t:Nat) (CA:Option Addr) (NC cC:Nat) (cl:List Int) (Q:Option Addr) (L cq mb bb na:Nat):Prop where
 gr:Qep V g N
 ov:Qfa V o N.ar ls
 part:RdT V Q L ls
 costs:RdI V CA NC cl
 q0:V.cell? ⟨qb,0,none⟩=some (.pointer (some ⟨g,0,none⟩))
 q1:V.cell? ⟨qb,1,none⟩=some (.pointer (some ⟨o,0,none⟩))
 q2:V.cell? ⟨qb,2,none⟩=some (.slice CA NC cC)
 q3:V.cell? ⟨qb,3,none⟩=some (.int .i64 s)
 q4:V.cell? ⟨qb,4,none⟩=some (.int .i64 t)
 q5:V.cell? ⟨qb,5,none⟩=some (.slice Q L cq)
 q6:V.cell? ⟨qb,6,none⟩=some (.map (some mb))
 q7:V.cell? ⟨qb,7,none⟩=some (.slice (some ⟨bb,0,none⟩) na na)
section
variable {V W:World} {qb g o:Nat} {N:Qal} {ls:List (List Int)} {s t:Nat} {CA:Option Addr} {NC cC:Nat} {cl:List Int} {Q:Option Addr} {L cq mb bb na:Nat}
theorem QR.le (h:QR V qb g o N ls s t CA NC cC cl Q L cq mb bb na)(hl:Le V W):QR W qb g o N ls s t CA NC cC cl Q L cq mb bb na :=
 ⟨h.gr.le hl,h.ov.le hl,h.part.le hl,h.costs.le hl,hl _ _ h.q0,hl _ _ h.q1,hl _ _ h.q2,hl _ _ h.q3,hl _ _ h.q4,hl _ _ h.q5,hl _ _ h.q6,hl _ _ h.q7⟩
theorem QR.below (h:QR V qb g o N ls s t CA NC cC cl Q L cq mb bb na)(hb:Below V.heap.size V W):QR W qb g o N ls s t CA NC cC cl Q L cq mb bb na:=h.le (Le.below hb)
end
set_option maxHeartbeats 2000000 in
theorem Qnw (w:World)(qb g o:Nat)(N:Qal) (ls:List (List Int)) (s t:Nat) (CA:Option Addr) (NC cC:Nat) (cl:List Int) (Q:Option Addr) (L cq mb bb na a:Nat) (x xs xt:Tri) (h:QR w qb g o N ls s t CA NC cC cl Q L cq mb bb na) (hok:Qaq N) (hP:Qba N.vs.length ls) (hx:N.ar[a]?=some x) (hxs:N.ar[s]?=some xs) (hxt:N.ar[t]?=some xt) :
 Calls prog 105 #[.pointer (some ⟨qb,0,none⟩),.int .i64 a] w fun e w'=>e=.returned (.int .i64 ((Qgp ls (toV N a) [toV N s,frV N t]:Nat):Int))∧Below w.heap.size w w':=by
 have HLV:=Zh (show lvI N.vs.length ls x.2.1 xs.2.1 xt.1=((Qgp ls (toV N a) [toV N s,frV N t]:Nat):Int) from by
  have o1:=hok.arcs x (Zm hx);have o2:=hok.arcs xs (Zm hxs);have o3:=hok.arcs xt (Zm hxt);unfold lvI;rw [if_pos ⟨⟨o1.g0,o1.g1⟩,⟨o2.g0,o2.g1⟩,⟨o3.f0,o3.f1⟩⟩,(Qbn hx).1,(Qbn hxs).1,(Qbn hxt).2.1])
 have HTA:=Zh (fun V (hV:Below w.heap.size w V)=>Qet g a N x V (h.gr.below hV) hx);have HTS:=Zh (fun V (hV:Below w.heap.size w V)=>Qet g s N xs V (h.gr.below hV) hxs);have HFT:=Zh (fun V (hV:Below w.heap.size w V)=>Qgf g t N xt V (h.gr.below hV) hxt);have HLO:=Zh (fun V (hV:Below w.heap.size w V)=>Qto Q L cq N.vs.length ls x.2.1 xs.2.1 xt.1 V (h.part.below hV) hP)
 have HSX:=Zh (show ∀ V,Below w.heap.size w V→V.cell? ⟨qb,0,none⟩=some (.pointer (some ⟨g,0,none⟩))∧V.cell? ⟨qb,3,none⟩=some (.int .i64 s)∧V.cell? ⟨qb,4,none⟩=some (.int .i64 t)∧V.cell? ⟨qb,5,none⟩=some (.slice Q L cq) from
  fun V hV=>⟨(h.below hV).q0,(h.below hV).q3,(h.below hV).q4,(h.below hV).q5⟩)
 clear h hok hP hx hxs hxt
 go_enter func105,ntmps105
 go_wp2_with fail
 refine wp_region_held_drew (S:=fun V=>Below w.heap.size w V) (by kernel_rfl) (Zr _ _).drew (fun _=>?_);refine tz 0 5 ?_;refine tz 1 6 ?_;refine tz 2 7 ?_;refine tz 3 8 ?_;refine tz 4 9 ?_;refine tz 5 10 ?_;refine tz 6 11 ?_;refine tz 7 12 ?_;refine tz 8 13 ?_;refine tz 10 15 ?_;refine tz 11 16 ?_;refine tz 12 17 ?_;refine tz 13 18 ?_;refine tz 14 19 ?_;refine tz 15 20 ?_;refine tz 16 21 ?_;refine tz 17 22 ?_;refine tz 19 24 ?_;refine tz 20 25 ?_;refine tz 21 26 ?_;refine tz 22 27 ?_;refine tz 23 28 ?_;refine tz 24 29 ?_;refine tz 25 30 ?_;refine tz 26 31 ?_;refine Zk 9 (fun K hK=>?_);go_simp;with_reducible refine (HTA.out _ (Zr _ _).drew).mono ?_
 rintro r w' ⟨rfl,rfl⟩;go_simp;refine hK.out _ _ (Zr _ _).drew (fun _=>?_);clear hK K;refine Zk 18 (fun K hK=>?_);go_simp;with_reducible refine (HTS.out _ (Zr _ _).drew).mono ?_
 rintro r w' ⟨rfl,rfl⟩;go_simp;refine hK.out _ _ (Zr _ _).drew (fun _=>?_);clear hK K;refine Zk 27 (fun K hK=>?_);go_simp;with_reducible refine (HFT.out _ (Zr _ _).drew).mono ?_
 rintro r w' ⟨rfl,rfl⟩;go_simp;refine hK.out _ _ (Zr _ _).drew (fun _=>?_);clear hK K;refine Zk 28 (fun K hK=>?_);go_simp;with_reducible refine (HLO.out _ (Zr _ _).drew).mono ?_
 rintro r w2 ⟨rfl,hb2⟩;rw [HLV.out];have hb2':Below w.heap.size w w2:=(Zr _ _).drew.trans hb2;go_simp;refine hK.out _ _ hb2' (fun _=>?_);clear hK K;refine tz 29 4 ?_;refine Zd ?_;clear hb2 HSX
 go_wp2_with fail
 go_ret
 exact ⟨rfl,hb2'⟩
set_option maxRecDepth 20000 in
set_option maxHeartbeats 1000000 in
theorem Qjt (w:World)(g o:Nat)(N:Qal) (ls:List (List Int)) (s t:Nat) (CA:Option Addr) (NC cC:Nat) (cl:List Int) (hg:Qep w g N) (ho:Qfa w o N.ar ls) (hc:RdI w CA NC cl) (hok:Qaq N) (hP:Qba N.vs.length ls) :
 Calls prog 46 #[.pointer (some ⟨g,0,none⟩),.pointer (some ⟨o,0,none⟩),.slice CA NC cC,.int .i64 s,.int .i64 t] w fun e w'=>∃ qb Q cq mb bb,e=.returned (.pointer (some ⟨qb,0,none⟩)) ∧
  QR (msk w' (fun b=>b<w'.heap.size∧b≠bb∧b≠mb)) qb g o N ls s t CA NC cC cl Q ls.length cq mb bb N.ar.length∧MpQ w' mb 0 (fun _ _=>none)∧Blk w' bb 3 (Qcj (List.replicate N.ar.length 0))∧(w.heap.size≤mb∧w.heap.size≤bb∧mb≠bb)∧Below w.heap.size w w':=by
 have HG:=Zh hg;have HO:=Zh ho;have HC:=Zh hc;obtain ⟨na,hna⟩:∃ na,na=N.ar.length:=⟨_,rfl⟩;have hla:na≤16384:=by rw [hna];exact hok.la
 have hmk:=Qcv na (by omega);have HGA:=Zh (fun V (hV:Below w.heap.size w V)=>(show Calls prog 99 #[.pointer (some ⟨g,0,none⟩)] V fun e w'=>e=.returned (.int .i64 na)∧V=w' by rw [hna];exact Qfs g N V (hg.below hV)))
 have HPT:=Zh (Qjy o N.ar ls w ho (by have:=hP.l6;omega) (fun l hl=>by have:=(hP.lvl l hl).len;have:=hok.lv;omega));obtain ⟨L,hL⟩:∃ L,L=ls.length:=⟨_,rfl⟩;rw [←hL] at HPT;rw [←hna,←hL];clear hg ho hc hok hP hna hL
 go_enter func46,ntmps46
 go_wp2_with fail
 with_reducible refine HPT.out.mono ?_
 rintro r w1 ⟨Q,cq,rfl,hQ,hb1⟩;have HQ:=Zh hQ;have hfl:∀ V,(Instr.field 132 (.agg #[.slice Q L cq]) 0).run prog V=.ok (.slice Q L cq) V:=fun V=>by rfl
 have hmm:=@run_makeMap prog;clear hQ HPT
 go_wp2_with fail
 (refine Qad ?_;intro w2 hw2)
 have hb2:Below w1.heap.size w1 w2:=by rw [hw2];exact Qag
 have HM2:=Zh (show MpQ w2 w1.heap.size 0 (fun _ _=>none) by rw [hw2];exact MpQ.new w1)
 clear hw2;have hb12:=Zb hb1 hb2;with_reducible refine (HGA.out w2 hb12).mono ?_
 rintro r w' ⟨rfl,rfl⟩
 go_wp2_with fail
 obtain ⟨bb,hbb⟩:∃ b,b=w2.heap.size:=⟨_,rfl⟩;obtain ⟨mb,hmb⟩:∃ b,b=w1.heap.size:=⟨_,rfl⟩;rw [←hbb,←hmb];rw [←hmb] at HM2;have s12:mb<w2.heap.size:=HM2.out.lt
 have s1:w.heap.size≤mb:=by rw [hmb];exact hb1.size
 obtain ⟨w3,hw3⟩:∃ V,V=w2.alloc (.cells (Qbm (.int .i64 0) na) 3):=⟨_,rfl⟩;rw [←hw3];have hB3:Blk w3 bb 3 (Qcj (List.replicate na 0)):=by rw [hw3,←Qbz];exact Blk.new' _ _ _ hbb
 have hb3:Below w2.heap.size w2 w3:=by rw [hw3];exact (Zr _ _).alloc (Zn _) _
 have s3:w3.heap.size=bb+1:=by rw [hw3,World.size_alloc,hbb]
 clear hw3;obtain ⟨w4,hw4⟩:∃ V,V=w3.alloc (.cells #[.pointer (some ⟨g,0,none⟩),.pointer (some ⟨o,0,none⟩),.slice CA NC cC,.int .i64 s,.int .i64 t,.slice Q L cq,.map (some mb),.slice (some ⟨bb,0,none⟩) na na] 197):=⟨_,rfl⟩;rw [←hw4];have hB4:Blk w4 (bb+1) 197 #[.pointer (some ⟨g,0,none⟩),.pointer (some ⟨o,0,none⟩),.slice CA NC cC,.int .i64 s,.int .i64 t,.slice Q L cq,.map (some mb),.slice (some ⟨bb,0,none⟩) na na]:=by rw [hw4];exact Blk.new' _ _ _ s3.symm
 have hb4:Below w3.heap.size w3 w4:=by rw [hw4];exact (Zr _ _).alloc (Zn _) _
 have s4:w4.heap.size=bb+2:=by rw [hw4,World.size_alloc,s3]
 clear hw4;have hb24:=Zb hb3 hb4;have hb14:=Zb hb2 hb24;have hb04:=Zb hb1 hb14;have hle:Le w (msk w4 (fun b=>b<w4.heap.size∧b≠bb∧b≠mb)):=Le.mskBelow hb04 (fun b hb=>⟨by omega,by omega,by omega⟩);have hmk4:∀ i v,w4.cell? ⟨bb+1,i,none⟩=some v→(msk w4 (fun b=>b<w4.heap.size∧b≠bb∧b≠mb)).cell? ⟨bb+1,i,none⟩=some v:=fun i v h=>Qej h ⟨by omega,by omega,by omega⟩
 go_ret
 refine ⟨bb+1,Q,cq,mb,bb,rfl,⟨HG.out.le hle,HO.out.le hle,(HQ.out.le (fun a v h=>?_)),HC.out.le hle,hmk4 _ _ (Zq hB4),hmk4 _ _ (Zq hB4),hmk4 _ _ (Zq hB4),hmk4 _ _ (Zq hB4),hmk4 _ _ (Zq hB4),hmk4 _ _ (Zq hB4),hmk4 _ _ (Zq hB4),hmk4 _ _ (Zq hB4)⟩,HM2.out.below hb24,hB3.below hb4 hB3.lt,⟨s1,by omega,by omega⟩,hb04⟩;obtain ⟨h1,h2⟩:=Qat.1 h;exact Qat.2 ⟨⟨by omega,by omega,by omega⟩,Zc hb14 (Zn _) h2⟩
structure NxtP (N:Qal) (ls:List (List Int)) (av:List Int) (a:Nat) (os cs:List Int):Prop where
 len:cs.length=os.length
 to_:∀ (k:Nat) (o v:Int),os[k]?=some o→cs[k]?=some v→∃ (b:Nat) (y:Tri),o=(b:Int)∧N.ar[b]?=some y∧0≤v∧v≤1152921504606846976∧(v≠1152921504606846976→y.2.2≠1152921504606846976→HSt N ls av a b (v+y.2.2))
 all:∀ (b:Nat) (d:Int),HSt N ls av a b d→∃ (k:Nat) (v:Int) (y:Tri),os[k]?=some (b:Int)∧cs[k]?=some v∧N.ar[b]?=some y∧v≠1152921504606846976∧y.2.2≠1152921504606846976∧d=v+y.2.2
section
variable {N:Qal} {ls:List (List Int)} {av:List Int} {s a:Nat}
theorem Qxe (hok:Qaq N){x:Tri} (hx:N.ar[a]?=some x) (h0:Qgp ls (toV N a) av=0):NxtP N ls av a (idx (·.1) N.ar x.2.1) ((idx (·.1) N.ar x.2.1).map (fun b=>Qas N a b.toNat)):=by
 refine ⟨by simp,fun k o v ho hv=>?_,fun b d hd=>?_⟩
 · obtain ⟨b,y,rfl,hy,hf⟩:=Qfd.1 (Zm ho)
   rw [Yt,ho] at hv;have hv':Qas N a b=v:=by simpa using hv
   subst hv';have hb:=Qdm hok a b;exact ⟨b,y,rfl,hy,by omega,by omega,fun h1 h2=>.inl ⟨h0,y,hy,h1,h2,rfl⟩⟩
 · rcases hd with ⟨_,hd⟩|⟨j,_,_,_,_,hj,_⟩
   · obtain ⟨x',y,hx',hy,e,h1,h2,h3⟩:=hd.ends
     rw [hx] at hx'
     cases hx'
     obtain ⟨k,hk⟩:=Yr (Qfd.2 ⟨b,y,rfl,hy,e.symm⟩:(b:Int)∈idx (·.1) N.ar x.2.1);exact ⟨k,Qas N a b,y,hk,by rw [Yt,hk];simp,hy,h1,h2,h3⟩
   · omega
theorem Qwe (hok:Qaq N){cl:List Int}(hA:Qcp N ls cl){j i c:Nat}{l:List Int}{x:Qak}{y:Tri} (hj:Qgp ls (toV N a) av=j+1) (hl:ls[j]?=some l) (hy:N.ar[a]?=some y) (hg:Qab l y.1≠Qab l y.2.1)
 (hc:Qab l y.2.1=(c:Int)) (hx:(gateRow N.ar l)[c]?=some x) (hi:x.1[i]?=some (a:Int)):NxtP N ls av a x.2 ((cl.drop (Qfe (gatesOf N.ar ls) (gateRow N.ar l) j c x i 0)).take x.2.length):=by
 have hat:∀ (k:Nat) (o:Int),x.2[k]?=some o→∃ (b:Nat) (z:Tri) (v:Int),o=(b:Int)∧N.ar[b]?=some z∧Qab l z.1=(c:Int)∧Qab l z.2.1≠(c:Int)∧((cl.drop (Qfe (gatesOf N.ar ls) (gateRow N.ar l) j c x i 0)).take x.2.length)[k]?=some v∧Qfb N (Qcg l c) a b v:=by
  intro k o ho;have hk:=(Zs ho).1;have hm:=Zm ho;obtain ⟨b,rfl⟩:=Qdv hx ho;obtain ⟨z,hz,h1,h2⟩:=(Qbl hx).1 hm;obtain ⟨v,hv,hv2⟩:=hA.at_ (show Qib N ls (Qfe (gatesOf N.ar ls) (gateRow N.ar l) j c x i k) j l c x i k a b from ⟨hl,hx,hi,ho,rfl⟩)
  refine ⟨b,z,v,rfl,hz,h1,h2,?_,hv2⟩;rw [List.getElem?_take_of_lt hk,List.getElem?_drop];rw [←hv]
  congr 1
  unfold Qfe;omega
 have hlen:((cl.drop (Qfe (gatesOf N.ar ls) (gateRow N.ar l) j c x i 0)).take x.2.length).length=x.2.length:=by
  rw [Yw];refine Nat.min_eq_left ?_
  rcases Nat.eq_zero_or_pos x.2.length with h0|h0
  · omega
  · obtain ⟨o,ho⟩:∃ o,x.2[x.2.length-1]?=some o:=⟨_,Zg (by omega)⟩
    obtain ⟨_,_,v,_,_,_,_,hv,_⟩:=hat _ _ ho;rw [List.getElem?_take_of_lt (by omega)] at hv;have:=(Zs hv).1;omega
 refine ⟨hlen,fun k o v ho hv=>?_,fun b d hd=>?_⟩
 · obtain ⟨b,z,v',rfl,hz,h1,h2,h3,h4⟩:=hat k o ho
   rw [hv] at h3
   cases h3
   have hb:=h4.bd hok;refine ⟨b,z,rfl,hz,by omega,by omega,fun g1 g2=>.inr ⟨j,l,y,z,v,hj,hl,hy,hz,hg,by rw [h1,hc],by rw [hc];exact h2,g2,by rw [hc];exact h4,g1,rfl⟩⟩
 · rcases hd with ⟨h0,_⟩|⟨j',l',y',z,v,hj',hl',hy',hz,_,h5,h6,h7,h8,h9,rfl⟩
   · omega
   · rw [hj] at hj'
     obtain rfl:j=j':=by omega
     rw [hl] at hl'
     cases hl'
     rw [hy] at hy'
     cases hy'
     rw [hc] at h5 h6 h8;obtain ⟨k,hk⟩:=Yr ((Qbl hx).2 ⟨z,hz,h5,h6⟩);obtain ⟨b',z',v',e,hz',_,_,h3,h4⟩:=hat k _ hk;obtain rfl:b=b':=by omega
     rw [hz] at hz'
     cases hz'
     obtain rfl:=Lst.uniq h8 h4;exact ⟨k,v,z,hk,h3,hz,h9,h7,rfl⟩
inductive Via (N:Qal) (ls:List (List Int)) (av:List Int) (s:Nat) (bf:List Int) (dn:Nat→Option Int):Nat→Int→List (Nat×Nat)→Prop
 | start:Via N ls av s bf dn s 0 []
 | step {p q:Nat} {c d:Int} {hs:List (Nat×Nat)}:Via N ls av s bf dn p c hs→dn p=some c→q≠s→bf[q]?=some (p:Int)→HSt N ls av p q d→Via N ls av s bf dn q (c+d) (hs ++[(p,q)])
inductive HopP (N:Qal) (ls:List (List Int)) (av:List Int) (s:Nat):Nat→Int→List (Nat×Nat)→Prop
 | start:HopP N ls av s s 0 []
 | step {p q:Nat} {c d:Int} {hs:List (Nat×Nat)}:HopP N ls av s p c hs→HSt N ls av p q d→HopP N ls av s q (c+d) (hs ++[(p,q)])
variable {bf:List Int} {dn dn':Nat→Option Int} {q:Nat} {c:Int} {hs:List (Nat×Nat)}
theorem Via.hopP (h:Via N ls av s bf dn q c hs):HopP N ls av s q c hs:=by
 induction h with
 | start=>exact .start
 | step _ _ _ _ h2 ih=>exact ih.step h2
theorem Via.set {r:Nat}{v:Int}(h:Via N ls av s bf dn q c hs)(hq:q≠r)(hr:dn r=none):Via N ls av s (bf.set r v) dn q c hs:=by
 induction h with
 | start=>exact .start
 | @step p q c d hs h1 h2 h3 h4 h5 ih =>
  have hp:p≠r:=fun e=>by subst e;rw [hr] at h2;cases h2
  exact .step (ih hp) h2 h3 (by rw [Yh (fun e=>hq e.symm)];exact h4) h5
theorem Via.more (h:Via N ls av s bf dn q c hs)(hd:∀ r e,dn r=some e→dn' r=some e):Via N ls av s bf dn' q c hs:=by
 induction h with
 | start=>exact .start
 | step _ h2 h3 h4 h5 ih=>exact .step ih (hd _ _ h2) h3 h4 h5
theorem Via.uniq {c':Int} {hs':List (Nat×Nat)} (h:Via N ls av s bf dn q c hs) (g:Via N ls av s bf dn q c' hs'):hs=hs':=by
 induction h generalizing c' hs' with
 | start =>
  cases g with
  | start=>rfl
  | step _ _ h _ _=>exact absurd rfl h
 | step h1 h2 h3 h4 h5 ih =>
  cases g with
  | start=>exact absurd rfl h3
  | step g1 g2 g3 g4 g5 =>
   rw [h4] at g4;have e:=Yv g4;obtain rfl:=Int.ofNat.inj e;rw [ih g1]
noncomputable def Qnx (N:Qal) (ls:List (List Int)) (av:List Int) (s:Nat) (bf:List Int) (dn:Nat→Option Int) (q:Nat):Nat:=by
 classical exact if h:∃ c hs,Via N ls av s bf dn q c hs then (Classical.choose (Classical.choose_spec h)).length else 0
theorem Qns (h:Via N ls av s bf dn q c hs):Qnx N ls av s bf dn q=hs.length:=by
 unfold Qnx;have he:∃ c hs,Via N ls av s bf dn q c hs:=⟨c,hs,h⟩;rw [dif_pos he];exact congrArg List.length ((Classical.choose_spec (Classical.choose_spec he)).uniq h)
structure Qvd (N:Qal) (ls:List (List Int)) (av:List Int) (s:Nat) (bf:List Int) (dn hp:Nat→Option Int) (k:Nat):Prop where
 done:∀ q c,dn q=some c→∃ hs,Via N ls av s bf dn q c hs∧hs.length+1≤k
 wait:∀ q c,hp q=some c→∃ hs,Via N ls av s bf dn q c hs∧hs.length≤k
 st:dn s≠none∨(∀ q,dn q=none)∧∀ q,q≠s→hp q=none
theorem Qvd.init {hp:Nat→Option Int}(h:∀ q,hp q=if q=s then some 0 else none):Qvd N ls av s bf (fun _=>none) hp 0:=by
 refine ⟨fun q c e=>(by cases e),fun q c e=>?_,.inr ⟨fun _=>rfl,fun q hq=>by rw [h q,if_neg hq]⟩⟩
 rw [h q] at e
 split at e
 · rename_i h1
   subst h1
   cases e
   exact ⟨[],.start,Zn _⟩
 · cases e
theorem Qvd.take {hp:Nat→Option Int}{p k:Nat}(h:Qvd N ls av s bf dn hp k)(hp1:hp p=some c)(hd:dn p=none):Qvd N ls av s bf (fun q=>if q=p then some c else dn q) (fun q=>if q=p then none else hp q) (k+1):=by
 have hm:∀ r e,dn r=some e→(fun q=>if q=p then some c else dn q) r=some e:=fun r e hr=>by
  have:r≠p:=fun e'=>by subst e';rw [hd] at hr;cases hr
  simp [this,hr]
 refine ⟨fun q e hq=>?_,fun q e hq=>?_,?_⟩
 · by_cases hqp:q=p
   · subst hqp
     simp at hq;subst hq;obtain ⟨hs,h1,h2⟩:=h.wait q c hp1;exact ⟨hs,h1.more hm,by omega⟩
   · simp [hqp] at hq
     obtain ⟨hs,h1,h2⟩:=h.done q e hq;exact ⟨hs,h1.more hm,by omega⟩
 · by_cases hqp:q=p
   · simp [hqp] at hq
   · simp [hqp] at hq
     obtain ⟨hs,h1,h2⟩:=h.wait q e hq;exact ⟨hs,h1.more hm,by omega⟩
 · left
   by_cases hsp:s=p
   · simp [hsp]
   · simp only [if_neg hsp]
     rcases h.st with h1|h1
     · exact h1
     · exact absurd (h1.2 p (fun e=>hsp e.symm)) (by rw [hp1];exact fun h=>by cases h)
theorem Qvd.put {hp hp':Nat→Option Int}{p b k:Nat}{d:Int}(h:Qvd N ls av s bf dn hp k)(hp1:dn p=some c)(hb:dn b=none)(hbl:b<bf.length)(hst:HSt N ls av p b d)(h1:∀ r,r≠b→hp' r=hp r) (h2:hp' b=some (c+d)):Qvd N ls av s (bf.set b (p:Int)) dn hp' k:=by
 have hs0:dn s≠none:=by
  rcases h.st with g|g
  · exact g
  · rw [g.1 p] at hp1;cases hp1
 refine ⟨fun q e hq=>?_,fun q e hq=>?_,?_⟩
 · obtain ⟨hs,g,g2⟩:=h.done q e hq
   exact ⟨hs,g.set (fun e'=>by subst e';rw [hb] at hq;cases hq) hb,g2⟩
 · by_cases hqb:q=b
   · subst hqb
     rw [h2] at hq
     cases hq
     obtain ⟨hs,g,g2⟩:=h.done p c hp1;have hqs:q≠s:=fun e=>hs0 (by rw [←e];exact hb)
     exact ⟨_,.step (g.set (fun e'=>by subst e';rw [hb] at hp1;cases hp1) hb) hp1 hqs (by rw [Yg hbl]) hst,by rw [Yp,List.length_singleton];exact g2⟩
   · rw [h1 q hqb] at hq
     obtain ⟨hs,g,g2⟩:=h.wait q e hq;exact ⟨hs,g.set hqb hb,g2⟩
 · exact .inl hs0
end
set_option maxHeartbeats 400000 in
theorem Qot (A:Option Addr)(n c:Nat)(l:List Int)(v:Int)(w:World)(h:RdI w A n l)(hn:n≤1000000000) :
 Calls prog 30 #[.slice A n c,.int .i64 v] w fun e w'=>e=.returned (.int .i64 (plI l v))∧w=w':=by
 have HR:=Zh h;have HL:=Zh h.1;clear h
 go_enter func30,ntmps30
 go_wp2_with fail
 go_loop [5] (fun q=>∃ k:Nat,k≤n∧q=.int .i64 k∧∀ j x,j<k→l[j]?=some x→x≠v) (fun q=>n-(intOf q).toNat)
 case atStart=>exact ⟨0,Nat.zero_le _,rfl,fun _ _ h=>absurd h (Nat.not_lt_zero _)⟩
 case round =>
  obtain ⟨k,hk,rfl,hj⟩:=hrel;have HJ:=Zh hj;clear hj
  by_cases hlt:k<n
  · obtain ⟨b,o,x,rfl,hx,hc⟩:=HR.out.at_ hlt
    have i1:(0:Int)≤(k:Int):=by omega
    have i2:(k:Int)<(n:Int):=by omega
    by_cases e:x=v
    · have HP:=Zh (Qna (e▸hx) HJ.out)
      have e1:(x == v)=true:=by simpa using e
      have e2:(v == x)=true:=by simpa using e.symm
      clear e hx
      go_wp2_with fail
      go_ret
      exact ⟨Qbw HP.out.symm,rfl⟩
    · have e1:(x == v)=false:=by simpa using e
      have e2:(v == x)=false:=by simpa using (fun h:v=x=>e h.symm)
      have HX:=Zh hx;have HE:=Zh e;clear e hx
      go_wp2_with fail
      go_round
      case rel=>exact ⟨k+1,by omega,by go_num,fun j y hj hy=>by
       by_cases ej:j=k
       · subst ej
         rw [HX.out] at hy
         cases hy
         exact HE.out
       · exact HJ.out j y (by omega) hy⟩
      case measure=>simp [intOf];omega
  · obtain rfl:n=k:=by omega
    have HP:=Zh (Qcw (l:=l) (v:=v) (fun hm=>by
     obtain ⟨j,hj⟩:=Yr hm;exact HJ.out j v (by rw [←HL.out];exact (Zs hj).1) hj rfl))
    go_wp2_with fail
    go_ret
    exact ⟨Qbw HP.out.symm,rfl⟩
theorem Qdu (A B C:Option Addr)(n m k c d e:Nat)(a:Int)(w:World)(h0:0≤a)(h1:a<m) :
 Calls prog 10 #[.agg #[.slice A n c,.slice B m d,.slice C k e],.int .i64 a] w fun r w'=>r=.returned (.bool true)∧Below w.heap.size w w':=by
 go_enter func10,ntmps10
 go_wp2
 go_ret
 exact ⟨Qbk (by first|(simp;done)|(simp;omega)),Qag⟩
theorem idx_at {f:Tri→Int}{l:List Tri}{k:Nat}{y:Tri} (h:l[k]?=some y):∀ j,k<j→j≤l.length→(idx f (l.take j) (f y))[(idx f (l.take k) (f y)).length]?=some (k:Int):=by
 intro j
 induction j with
 | zero=>intro h1;omega
 | succ j ih =>
  intro h1 h2;obtain ⟨z,hz⟩:∃ z,l[j]?=some z:=⟨_,Zg (by omega)⟩;rw [Qeg hz]
  by_cases e:k=j
  · subst e
    rw [h] at hz
    cases hz
    rw [Yb (Zn _),Yy];simp
  · have:=ih (by omega) (by omega)
    rw [Yc (Zs this).1];exact this
theorem Qwk {f:Tri→Int}{l:List Tri}{k:Nat}{y:Tri} (h:l[k]?=some y):plI (idx f l (f y)) (k:Int)=((idx f (l.take k) (f y)).length:Nat):=by
 have hk:=(Zs h).1;have h1:=idx_at (f:=f) h l.length hk (Zn _);rw [List.take_length] at h1;refine Qna h1 (fun j x hj hx=>?_);have hs:=Quk f (f y) l;rw [List.pairwise_iff_getElem] at hs;obtain ⟨p1,e1⟩:=Zs hx;obtain ⟨p2,e2⟩:=Zs h1;have:=hs j _ p1 p2 hj;omega
set_option maxHeartbeats 1000000 in
theorem Qov (A:Option Addr)(n c:Nat)(t:Qea)(i o:Nat)(w:World)(h:RdI w A n t.costs)(ht:Qow t) (hi:(i:Int)<t.ins) (ho:(o:Int)<t.outs) :
 Calls prog 52 #[.agg #[.int .i64 t.ins,.int .i64 t.outs,.slice A n c],.int .i64 i,.int .i64 o] w fun e w'=>∃ x,t.costs[i*t.outs.toNat+o]?=some x∧e=.returned (.int .i64 x)∧Below w.heap.size w w':=by
 obtain ⟨p,q,cs⟩:=t;simp only at h hi ho ⊢;have i0:0≤p:=ht.i0;have i16:p≤16:=ht.i16;have o0:0≤q:=ht.o0;have o16:q≤16:=ht.o16;have hm:=Qoh i0 i16 o0 o16;have hl:(cs.length:Int)=p*q:=ht.len
 have hk:(i:Int)*q+o<p*q:=by
  have h1:((i:Int)+1)*q≤p*q:=Int.mul_le_mul_of_nonneg_right (by omega) o0;rw [Int.add_mul,Int.one_mul] at h1;omega
 have hk0:0≤(i:Int)*q:=Int.mul_nonneg (by omega) o0;obtain ⟨k,hkk⟩:∃ k:Nat,(k:Int)=(i:Int)*q+o:=⟨((i:Int)*q+o).toNat,by omega⟩
 have hke:i*q.toNat+o=k:=by
  have:((i*q.toNat+o:Nat):Int)=(k:Int):=by
   rw [hkk]
   push_cast
   rw [Int.toNat_of_nonneg o0]
  exact_mod_cast this
 rw [hke];have hkl:k<n:=by rw [←h.1];omega
 obtain ⟨b,oo,x,hA,hx,hc⟩:=h.at_ hkl;subst hA;have e1:IntKind.i64.wrap ((i:Int)*q)=(i:Int)*q:=IntWalk.i64_in _ (by omega);have e2:IntKind.i64.wrap ((i:Int)*q+o)=(k:Int):=by rw [←hkk];exact IntWalk.i64_in _ (by omega)
 have i1:((k:Int))<(n:Int):=by omega
 have i2:¬(p≤(i:Int)):=by omega
 have i3:¬(q≤(o:Int)):=by omega
 have i4:¬((i:Int)<0):=by omega
 have i5:¬((o:Int)<0):=by omega
 have HX:=Zh hx;have hb:=Qaj hc;simp only at hb;clear hx hk hm hl hkk hke h ht
 go_enter func52,ntmps52
 go_wp2_with fail
 go_ret
 exact ⟨x,HX.out,rfl,Qag⟩
section
variable {w V V':World} {D:Nat} {cs:Array Value} {d:List Int}
end
theorem Qpx (w:World)(x:Int)(h0:1152921504606846976<x) :
 Calls prog 131 #[.int .i64 x] w fun e w'=>e=.returned (.int .i64 1152921504606846976)∧w=w':=by
 have e1:decide (x<0)=false:=by simp;omega
 have e2:decide (1152921504606846976<x)=true:=by simp;omega
 go_enter func131,ntmps131
 go_wp2_with fail
 go_ret
 exact ⟨rfl,rfl⟩
theorem Qdy (w:World)(x y:Int)(h0:0≤x∧x≤1152921504606846976)(h1:0≤y∧y≤1152921504606846976) :
 Calls prog 81 #[.int .i64 x,.int .i64 y] w fun e w'=>e=.returned (.int .i64 (Qfp x y))∧w=w':=by
 have HX:=Zh (Qdc w x h0.1 h0.2);have HY:=Zh (Qdc w y h1.1 h1.2)
 have HZ:=Zh (show Calls prog 131 #[.int .i64 (x+y)] w fun e w'=>e=.returned (.int .i64 (Qfp x y))∧w=w' by
  unfold Qfp
  split
  · exact Qpx w (x+y) (by omega)
  · exact Qdc w (x+y) (by omega) (by omega))
 have e1:IntKind.i64.wrap (x+y)=x+y:=IntWalk.i64_in _ (by omega)
 go_enter func81,ntmps81
 go_wp2_with fail
 with_reducible refine HX.out.mono ?_
 rintro e w' ⟨rfl,rfl⟩
 go_wp2_with fail
 with_reducible refine HY.out.mono ?_
 rintro e w' ⟨rfl,rfl⟩
 go_wp2_with fail
 with_reducible refine HZ.out.mono ?_
 rintro e w' ⟨rfl,rfl⟩
 go_wp2_with fail
 go_ret
 exact ⟨rfl,rfl⟩
theorem Qva {x:Int}(h:x≤1152921504606846976):Qfp 0 x=x:=by
 unfold Qfp
 split <;> omega
theorem Qpu (A:Option Addr)(c:Nat)(w:World)(x y z:Int) (h:RdI w A 3 [x,y,z]) (h0:0≤x∧x≤1152921504606846976) (h1:0≤y∧y≤1152921504606846976) (h2:0≤z∧z≤1152921504606846976) :
 Calls prog 106 #[.slice A 3 c] w fun e w'=>e=.returned (.int .i64 (Qfp (Qfp x y) z))∧w=w':=by
 obtain ⟨b,o,rfl,c0⟩:=h.2 0 x rfl;obtain ⟨b',o',e',c1⟩:=h.2 1 y rfl
 cases e'
 obtain ⟨b',o',e',c2⟩:=h.2 2 z rfl
 cases e'
 rw [Nat.add_zero] at c0;clear h;have HX:=Zh (show Calls prog 81 #[.int .i64 0,.int .i64 x] w fun e w'=>e=.returned (.int .i64 x)∧w=w' from by have:=Qdy w 0 x (by omega) h0;rw [Qva h0.2] at this;exact this)
 have HY:=Zh (Qdy w x y h0 h1);have gb:=Qvv h0.1 h1.1;have HZ:=Zh (Qdy w (Qfp x y) z ⟨gb.1,gb.2.1⟩ h2);obtain ⟨u,hu⟩:∃ u,u=Qfp x y:=⟨_,rfl⟩;rw [←hu] at HY HZ ⊢;obtain ⟨v,hv⟩:∃ v,v=Qfp u z:=⟨_,rfl⟩;rw [←hv] at HZ ⊢;clear hu hv gb
 go_enter func106,ntmps106
 go_wp2_with fail
 go_loopw [3,8] (fun s i W=>W=w∧((s=.int .i64 0∧i=.int .i64 0)∨(s=.int .i64 x∧i=.int .i64 1)∨(s=.int .i64 u∧i=.int .i64 2)∨(s=.int .i64 v∧i=.int .i64 3))) (fun _ i _=>3-(intOf i).toNat)
 case atStart=>exact ⟨rfl,.inl ⟨rfl,rfl⟩⟩
 case round =>
  obtain ⟨rfl,⟨rfl,rfl⟩|⟨rfl,rfl⟩|⟨rfl,rfl⟩|⟨rfl,rfl⟩⟩:=hrel
  · go_wp2_with fail
    with_reducible refine HX.out.mono ?_
    rintro e w' ⟨rfl,rfl⟩
    go_wp2_with fail
    go_roundw
    case rel=>exact ⟨by trivial,.inr (.inl ⟨rfl,rfl⟩)⟩
    case measure=>simp [intOf]
  · go_wp2_with fail
    with_reducible refine HY.out.mono ?_
    rintro e w' ⟨rfl,rfl⟩
    go_wp2_with fail
    go_roundw
    case rel=>exact ⟨by trivial,.inr (.inr (.inl ⟨rfl,rfl⟩))⟩
    case measure=>simp [intOf]
  · go_wp2_with fail
    with_reducible refine HZ.out.mono ?_
    rintro e w' ⟨rfl,rfl⟩
    go_wp2_with fail
    go_roundw
    case rel=>exact ⟨by trivial,.inr (.inr (.inr ⟨rfl,rfl⟩))⟩
    case measure=>simp [intOf]
  · go_wp2_with fail
    go_ret
    exact ⟨rfl,rfl⟩
end Go.Proofs.YtdheeddnkdhfeaaGreatDoor
namespace Go.Proofs.YtdheeddnkdhfeaaGreatDoor
open Go.RowKit Go.Maps Go.WideMaps Go.Proofs.Tryz
attribute [local go_sem ↓] Go.wp_at_zero Go.wp_at_succ
theorem MpQ.at_ {W W':World}{b n:Nat}{f:Nat→Nat→Option Value}(h:MpQ W b n f) (e:W'.heap[b]?=W.heap[b]?):MpQ W' b n f:=by
 obtain ⟨D,⟨es,clock,h1,h2⟩,h3⟩:=h;exact ⟨D,⟨es,clock,e.trans h1,h2⟩,h3⟩
theorem Qjb {w:World}{o:Oper}{a:Act}{K:Act→World→Prop}{Q:Exit→Act→World→Prop}{b n:Nat}{f:Nat→Nat→Option Value}(m x v:Operand)(hop:o.op=Op.mapUpdate 159 m x v)(i k:Nat)(u:Value) (hm:a.eval m=.map (some b)) (h:MpQ w b n f) (hn:n≤1000000000000000000) (hx:a.eval x=.agg #[.int .i64 i,.int .i64 k]) (hv:a.eval v=u) (hi:i≤1000000000000) (hk:k≤1000000000000)
 (hK:∀ w',MpQ w' b (n+1) (fun p q=>if p=i∧q=k then some u else f p q)→w.grownBy w' (some b)→K (a.put o.dst undef) w'):Oper.wp prog o a w K Q:=by
 obtain ⟨D,h1,h2,h3⟩:=h;obtain ⟨w',hrun,g1,g2⟩:=h1.update Qly underlying159 (by unfold maxLen;omega) (Qsh hi hk) (show RV u=some (.held u,[]) from rfl)
 have hf:=hK w' ⟨_,g1,h2.put _ _,fun p q hp hq=>by
  have hkl:WideAt.IsKeyLit (kq i k):=by simp [WideAt.IsKeyLit,kq]
  by_cases e:p=i∧q=k
  · obtain ⟨rfl,rfl⟩:=e
    simp only [and_self,if_pos];exact ⟨has_put_same h2 hkl _,fun v e z=>by cases e;exact atKey_put_same h2 hkl _ _⟩
  · simp only [if_neg e]
    exact ⟨(has_put_other (kq_ne hp hq hi hk e) _).trans (h3 p q hp hq).1,fun v e2 z=>(atKey_put_other (kq_ne hp hq hi hk e) _ _).trans ((h3 p q hp hq).2 v e2 z)⟩⟩ g2
 unfold Oper.wp;simp [execOp,hop,hm,hx,hv,hrun,Result.andThen];exact hf
def MpC (V:World)(G:Nat→Prop)(ar:List Tri) (ls:List (List Int)) (f:Nat→Nat→Option Value):Prop :=
 ∀ i k u,f i k=some u→∃ j l x A1 n1 c1 A2 n2 c2,i=j+1∧ls[j]?=some l∧(gateRow ar l)[k]?=some x∧u=.agg #[.slice A1 n1 c1,.slice A2 n2 c2]∧RdI (msk V G) A1 n1 x.1∧RdI (msk V G) A2 n2 x.2
theorem MpC.le {V V':World}{G G':Nat→Prop}{ar:List Tri} {ls:List (List Int)} {f:Nat→Nat→Option Value} (h:MpC V G ar ls f) (hl:Le (msk V G) (msk V' G')):MpC V' G' ar ls f:=fun i k u hu=>by
 obtain ⟨j,l,x,A1,n1,c1,A2,n2,c2,h1,h2,h3,h4,h5,h6⟩:=h i k u hu;exact ⟨j,l,x,A1,n1,c1,A2,n2,c2,h1,h2,h3,h4,h5.le hl,h6.le hl⟩
theorem MpC.put {V:World}{G:Nat→Prop}{ar:List Tri} {ls:List (List Int)} {f:Nat→Nat→Option Value} (h:MpC V G ar ls f) {j k:Nat} {l:List Int} {x:Qak} {A1 A2:Option Addr} {n1 n2 c1 c2:Nat} (hl:ls[j]?=some l) (hx:(gateRow ar l)[k]?=some x) (h1:RdI (msk V G) A1 n1 x.1) (h2:RdI (msk V G) A2 n2 x.2) :
 MpC V G ar ls (fun p q=>if p=j+1∧q=k then some (.agg #[.slice A1 n1 c1,.slice A2 n2 c2]) else f p q):=fun p q u hu=>by
 simp only at hu
 by_cases e:p=j+1∧q=k
 · rw [if_pos e] at hu
   cases hu
   obtain ⟨rfl,rfl⟩:=e;exact ⟨j,l,x,A1,n1,c1,A2,n2,c2,rfl,hl,hx,rfl,h1,h2⟩
 · rw [if_neg e] at hu
   exact h p q u hu
structure Nxw (mb:Nat) (w w':World):Prop where
 kept:Qbc (fun b=>b≠mb) w w'
 size:w.heap.size≤w'.heap.size
 bel:∀ B,B≤mb→Below B w w'
theorem Nxw.below {mb:Nat}{w w':World}(h:Below w.heap.size w w')(hm:mb<w.heap.size):Nxw mb w w':=⟨Qbc.below h,h.size,fun B hB=>h.mono (by omega)⟩
theorem Nxw.grown {mb:Nat}{w w':World} (h:w.grownBy w' (some mb)) (hm:mb<w.heap.size):Nxw mb w w':=⟨Qbc.grown h (fun _ hb e=>hb (by injection e with e;exact e.symm)),h.size,fun B hB=>⟨h.os,h.tape,h.output,h.size,fun k hk=>h.block k (by omega) (fun e2=>by injection e2;omega)⟩⟩
theorem Nxw.trans {mb:Nat}{a b c:World}(h:Nxw mb a b)(k:Nxw mb b c):Nxw mb a c:=⟨h.kept.trans k.kept h.size,Yx h.size k.size,fun B hB=>(h.bel B hB).trans (k.bel B hB)⟩
def G2 (G:Nat→Prop)(w w':World):Nat→Prop:=fun b=>G b∨(w.heap.size≤b∧b<w'.heap.size)
theorem G2.le {G:Nat→Prop}{mb:Nat}{w w':World}(h:Nxw mb w w')(hG:¬G mb):Le (msk w G) (msk w' (G2 G w w')) :=
 (Qbc.msk (h.kept.mono (fun _ hb e=>hG (e▸hb)))).trans (Qbt (fun _ hb=>.inl hb))
theorem run_cutG {P:Program}(t e:TypeId) (ht:P.underlying t=some (.slice e)) (he:P.elem t=e) (hs:(P.info? e).map (·.size)=some 1) (A:Option Addr) (n c lo r:Nat) (hlo:lo+r≤c) (h0:0<r) (w:World) :
 (Instr.slice t (.slice A n c) (some (.int .i64 (lo:Int))) (some (.int .i64 ((lo:Int)+(r:Int)))) none).run P w=.ok (.slice (A.map (·.add lo)) r (c-lo)) w:=by
 rw [run_slice_lh (P:=P) w t A n c (by rw [he];exact ht) .i64 .i64 (lo:Int) ((lo:Int)+(r:Int)) (by omega) (by omega) (by omega),he];have e1:((lo:Int)).toNat=lo:=by omega
 have e2:((lo:Int)+(r:Int)).toNat=lo+r:=by omega
 have e3:¬c=lo:=by omega
 rw [e1,e2]
 cases hi:P.info? e with
 | none=>rw [hi] at hs;cases hs
 | some i =>
  rw [hi] at hs;simp at hs;simp [sizeOf,typeInfo,hi,Result.andThen,hs,sliced,e3]
theorem Qio (A:Option Addr)(n c lo r:Nat)(hlo:lo+r≤c)(h0:0<r)(W:World):(Instr.slice 36 (.slice A n c) (some (.int .i64 (lo:Int))) (some (.int .i64 ((lo:Int)+(r:Int)))) none).run prog W=.ok (.slice (A.map (·.add lo)) r (c-lo)) W :=
 run_cutG 36 2 underlying36 (by kernel_rfl) (by kernel_rfl) A n c lo r hlo h0 W
theorem RdI.sub {w:World}{A:Option Addr}{n:Nat}{l:List Int}(h:RdI w A n l)(lo r:Nat)(hr:lo+r≤n):RdI w (A.map (·.add lo)) r ((l.drop lo).take r):=by
 refine ⟨by rw [Yw,List.length_drop,h.1];omega,fun i x hi=>?_⟩;have hir:i<r:=by have:=(Zs hi).1;rw [Yw] at this;omega
 rw [List.getElem?_take_of_lt hir,List.getElem?_drop] at hi;obtain ⟨b,o,rfl,hc⟩:=h.2 _ x hi;refine ⟨b,o+lo,?_,by rw [Nat.add_assoc];exact hc⟩;simp only [Option.map_some,Addr.add]
 split
 · rename_i h0;rw [show lo=0 by omega];rfl
 · rfl
theorem Qsm {cs:List Int}{i n:Nat}{z:Int} (h:cs[i]?=some z) (hn:i<n) (hl:cs.length=n):(cs.take i ++List.replicate (n-i) 0).set i z=cs.take (i+1) ++List.replicate (n-(i+1)) 0:=by
 have hl2:(cs.take i).length=i:=by rw [Yw];omega
 rw [List.set_append_right _ _ (by rw [hl2];exact Zn _),hl2,Yy,Yf (by omega),(Zs h).2];obtain ⟨m,hm⟩:∃ m,n-i=m+1:=⟨n-i-1,by omega⟩;rw [hm,show n-(i+1)=m by omega]
 simp [List.replicate_succ]
end Go.Proofs.YtdheeddnkdhfeaaGreatDoor
namespace Go.Proofs.YtdheeddnkdhfeaaGreatDoor
open Go.RowKit Go.Proofs.Tryz
attribute [local go_sem ↓] Go.wp_at_zero Go.wp_at_succ
theorem Own.rdM {w:World}{B n c:Nat}{e:TypeId}{A:Option Addr}{l:List Int}{G:Nat→Prop} (h:Own w B e 1 A n c (Qaf l)) (hG:∀ b,B≤b→b<w.heap.size→G b):RdI (msk w G) A n l:=by
 have hr:=h.rds.rdI;refine ⟨hr.1,fun i x hi=>?_⟩;obtain ⟨b,o,rfl,hc⟩:=hr.2 i x hi;have:=h.lt b rfl;exact ⟨b,o,rfl,Qat.2 ⟨hG b this.1 this.2,hc⟩⟩
theorem Blk.rdM {w:World}{g:Nat}{t:TypeId}{l:List Int}{G:Nat→Prop} (h:Blk w g t (Qcj l)) (hG:G g):RdI (msk w G) (some ⟨g,0,none⟩) l.length l :=
 ⟨rfl,fun i x hi=>⟨g,0,rfl,by rw [Yz];exact Qat.2 ⟨hG,h.cellI hi⟩⟩⟩
set_option maxHeartbeats 2000000 in
theorem next0_ok (w:World)(qb g o:Nat)(N:Qal) (ls:List (List Int)) (s t:Nat) (CA:Option Addr) (NC cC:Nat) (cl:List Int) (Q:Option Addr) (L cq mb bb na a:Nat) (x:Tri) (h:QR w qb g o N ls s t CA NC cC cl Q L cq mb bb na) (hok:Qaq N) (hx:N.ar[a]?=some x) :
 Calls prog 104 #[.pointer (some ⟨qb,0,none⟩),.int .i64 0,.int .i64 a] w fun e w'=>∃ (O C:Option Addr) (nO cO cC':Nat),e=.returned (.tuple #[.slice O nO cO,.slice C nO cC']) ∧
  RdI (msk w' (fun b=>w.heap.size≤b∧b<w'.heap.size)) O nO (idx (·.1) N.ar x.2.1)∧RdI (msk w' (fun b=>w.heap.size≤b∧b<w'.heap.size)) C nO ((idx (·.1) N.ar x.2.1).map (fun b=>Qas N a b.toNat))∧nO≤16384∧Below w.heap.size w w':=by
 obtain ⟨u,v,e1,e2,hu,hv⟩:=Qeb hok hx;obtain ⟨os,hos⟩:∃ os,os=idx (·.1) N.ar x.2.1:=⟨_,rfl⟩;obtain ⟨no,hno⟩:∃ no,no=os.length:=⟨_,rfl⟩
 have hnl:no≤16384:=by
  rw [hno,hos];have:=Qgm (·.1) N.ar N.ar.length x.2.1;rw [List.take_length] at this;have:=hok.la;omega
 have HTO:=Zh (Qet g a N x w h.gr hx);have HOU:=Zh (show Calls prog 153 #[.pointer (some ⟨g,0,none⟩),.int .i64 x.2.1] w fun e w'=>∃ A n c,e=.returned (.slice A n c)∧Own w' w.heap.size 3 1 A n c (Qaf os)∧Below w.heap.size w w' by rw [hos,e2];exact Qmx g v N w h.gr hv)
 have HTN:=Zh (fun V (hV:Below w.heap.size w V) (b:Nat) (y:Tri) (hy:N.ar[b]?=some y)=>Qmt g a b N x y V (h.gr.below hV) hx hy)
 have HCL:=Zh (show ∀ i b,os[i]?=some b→∃ (n:Nat) (y:Tri),b=(n:Int)∧N.ar[n]?=some y from fun i b hb=>by
  rw [hos] at hb;obtain ⟨n,y,rfl,hy,_⟩:=Qfd.1 (Zm hb);exact ⟨n,y,rfl,hy⟩)
 rw [←hos];obtain ⟨cs,hcs⟩:∃ cs,cs=os.map (fun b=>Qas N a b.toNat):=⟨_,rfl⟩;rw [←hcs];have HCS:=Zh (show ∀ i n,os[i]?=some ((n:Nat):Int)→cs[i]?=some (Qas N a n) from fun i n hb=>by rw [hcs,Yt,hb];simp)
 have HLC:=Zh (show cs.length=no by rw [hcs,List.length_map,hno])
 have HNO:=Zh hno;have HQ:=Zh (show ∀ V,Below w.heap.size w V→V.cell? ⟨qb,0,none⟩=some (.pointer (some ⟨g,0,none⟩)) from fun V hV=>(h.below hV).q0)
 have q0:=h.q0;have hmk:=Qew no (by omega);clear h hok hx hos hno hcs e1 e2 hu hv
 go_enter func104,ntmps104
 go_wp2_with fail
 with_reducible refine HTO.out.mono ?_
 rintro r w' ⟨rfl,rfl⟩
 go_wp2_with fail
 with_reducible refine HOU.out.mono ?_
 rintro r w1 ⟨O,nO,cO,rfl,hO,hb1⟩;obtain rfl:no=nO:=by rw [HNO.out];exact hO.rds.rdI.1
 have HO:=Zh hO;have HB1:=Zh hb1;clear hO hb1 q0
 go_wp2_with fail
 (refine Qai ?_;intro w2 hw2)
 have hb2:Below w1.heap.size w1 w2:=by rw [hw2];exact Qag
 have hC2:Blk w2 w1.heap.size 2 (Qcj (cs.take 0 ++List.replicate (no-0) 0)):=by rw [hw2,List.take_zero,List.nil_append,Nat.sub_zero,←Qbz];exact Qbf
 have HC2:=Zh hC2;have HB2:=Zh hb2;clear hw2 hC2 hb2
 go_loopw [37] (fun uk V=>∃ kk:Nat,kk≤no∧uk=.int .i64 kk∧Below w1.heap.size w1 V∧Blk V w1.heap.size 2 (Qcj (cs.take kk ++List.replicate (no-kk) 0))) (fun uk _=>no-(intOf uk).toNat)
 case atStart=>exact ⟨0,Nat.zero_le _,rfl,HB2.out,HC2.out⟩
 case round =>
  clear HC2 HB2;obtain ⟨kk,hkk,rfl,hb,hC⟩:=hrel;have HB:=Zh hb;have HC:=Zh hC;have hlt1:=hC.lt
  by_cases hlt:kk<no
  rotate_left
  · obtain rfl:kk=no:=by omega
    have j2:¬((kk:Int)<(kk:Int)):=by omega
    clear hb hC
    go_wp2_with fail
    refine bodyPost_ret (v:=.tuple #[.slice O kk cO,.slice (some ⟨w1.heap.size,0,none⟩) kk kk]) (by simp [results,results104,go_sem]) rfl ?_;refine ⟨O,_,kk,⟨cO,kk,rfl⟩,(HO.out.below HB.out).rdM (fun _ h1 h2=>⟨h1,h2⟩),?_,hnl,Zb HB1.out HB.out⟩;have hC:=HC.out;rw [Yy,List.replicate_zero,List.append_nil,Ye (by rw [HLC.out];exact Zn _)] at hC;have:=hC.rdM (G:=fun b=>w.heap.size≤b∧b<wr.heap.size) ⟨HB1.out.size,hlt1⟩
    rwa [HLC.out] at this
  · have j2:(kk:Int)<(no:Int):=by omega
    have j3:(0:Int)≤(kk:Int):=by omega
    obtain ⟨ob,oo,z,rfl,hz,c1⟩:=(HO.out.below hb).rds.rdI.at_ hlt;obtain ⟨b,y,rfl,hy⟩:=HCL.out kk z hz;have HY:=Zh hy;have HZ:=Zh (HCS.out kk b hz);have q0:=HQ.out wr (Zb HB1.out hb);have HT:=Zh (HTN.out wr (Zb HB1.out hb) b y hy);clear hb hC hz hy
    go_wp2_with fail
    with_reducible refine HT.out.mono ?_
    rintro r w3 ⟨rfl,hb3⟩;have HB3:=Zh (Zb HB.out hb3);have HC3:=Zh (HC.out.below hb3 hlt1);have hfr:=HC3.out.frozen kk;have HC4:=Zh (HC3.out.setI (Qsm HZ.out hlt HLC.out));have HB4:=Zh (Zi (o:=kk) (u:=.int .i64 (Qas N a b)) HB3.out (Zn _))
    have d0:w3.cell? ⟨w1.heap.size,kk,none⟩=some (.int .i64 0):=HC3.out.cellI (by
     rw [Yb (by rw [Yw,HLC.out];omega),Yw,HLC.out,Nat.min_eq_left (by omega),Yy,List.getElem?_replicate,if_pos (by omega)])
    clear hb3 c1 q0
    go_wp2_with fail
    go_roundw
    case rel=>exact ⟨kk+1,by omega,by go_num,HB4.out,HC4.out⟩
    case measure=>simp [intOf];omega
def NxtR (w:World)(G:Nat→Prop)(mb n:Nat)(N:Qal) (ls:List (List Int)) (av:List Int) (a:Nat) (r:Ending) (w':World):Prop :=
 ∃ (O C:Option Addr) (nO cO cC n':Nat) (os cs:List Int) (f':Nat→Nat→Option Value),r=.returned (.tuple #[.slice O nO cO,.slice C nO cC])∧NxtP N ls av a os cs∧RdI (msk w' (G2 G w w')) O nO os∧RdI (msk w' (G2 G w w')) C nO cs ∧
  MpQ w' mb n' f'∧n'≤n+1∧MpC w' (G2 G w w') N.ar ls f'∧Nxw mb w w'∧nO≤16384
theorem G2.more {G:Nat→Prop}{w V V':World}(h:Below V.heap.size V V'):Le (msk V (G2 G w V)) (msk V' (G2 G w V')) :=
 (Qbc.msk (Qbc.below h)).trans (Qbt (fun _ hb=>hb.imp id (fun h1=>⟨h1.1,Yu h1.2 h.size⟩)))
set_option maxRecDepth 20000 in
set_option maxHeartbeats 2000000 in
theorem next1_ok (w:World)(qb g o:Nat)(N:Qal) (ls:List (List Int)) (s t:Nat) (CA:Option Addr) (NC cC:Nat) (cl:List Int) (Q:Option Addr) (L cq mb bb na a J j:Nat) (y:Tri) (av:List Int) (G:Nat→Prop) (n:Nat) (f:Nat→Nat→Option Value) (h:QR (msk w G) qb g o N ls s t CA NC cC cl Q L cq mb bb na) (hGm:¬G mb) 
 (hm:MpQ w mb n f) (hn:n≤1000000) (hmc:MpC w G N.ar ls f) (hok:Qaq N) (hP:Qba N.vs.length ls) (hA:Qcp N ls cl) (hcc:NC≤cC∧cC≤9223372036854775807) (hSm:Qby (gatesOf N.ar ls)≤1000000000) (hy:N.ar[a]?=some y) (hg:Qya N ls av a) (hJ:Qgp ls (toV N a) av=J) (hj:J=j+1) :
 Calls prog 104 #[.pointer (some ⟨qb,0,none⟩),.int .i64 J,.int .i64 a] w (NxtR w G mb n N ls av a):=by
 obtain ⟨l,hl,_⟩:=Qee (hJ.trans hj);have hlv:=hP.lvl l (Zm hl);have hgd:=hg j l y (hJ.trans hj) hl hy;obtain ⟨_,v,_,e2,_,hv⟩:=Qeb hok hy;obtain ⟨c,hc,hcm,hcv⟩:=Qcx hlv hv;rw [←e2] at hc;obtain ⟨x,hx⟩:∃ x,(gateRow N.ar l)[c]?=some x:=⟨_,Zg (by rw [Qar];exact hcm)⟩;obtain ⟨i,hi⟩:=Yr ((Qcq hx).2 ⟨y,hy,by rw [←hc];exact hgd,hc⟩);have HNX:=Zh (Qwe hok hA (hJ.trans hj) hl hy hgd hc hx hi);have hL6:=hP.l6;have hlen:=hlv.len;have hvs:=hok.lv;have hil:=(Zs hi).1;have hll:=(Zs hl).1;have HQ:=Zh (show ∀ V,Nxw mb w V→QR V qb g o N ls s t CA NC cC cl Q L cq mb bb na from fun V hV=>h.le ((G2.le hV hGm).trans (Qaw _ _)))
 have HG2:=Zh (show ∀ V,Nxw mb w V→Le (msk w G) (msk V (G2 G w V)) from fun V hV=>G2.le hV hGm)
 have HMQ:=Zh hm;have HMC:=Zh hmc;have HCL:=Zh h.costs;have HCC:=Zh hcc;have HTO:=Zh (Qet g a N y w (h.gr.le (Qaw _ _)) hy);rw [e2] at HTO;have HGT:=Zh (fun V (hV:Nxw mb w V)=>Qfq o j c N.ar ls l x V (h.ov.le ((G2.le hV hGm).trans (Qaw _ _))) hl (by omega) hx (by have:=hok.la;omega));have HFR:=Zh (fun V (hV:Nxw mb w V)=>Qqf o j c i N ls l x V (h.ov.le ((G2.le hV hGm).trans (Qaw _ _))) hl hx hil (by omega) hSm);have HSO:=Zh (Qdg hx);have HPI:=Zh (Qdp HSO.out hi);have hgl:=Qbo hx;have hla:=hok.la;have HGL:=Zh (show x.1.length≤16384∧x.2.length≤16384 by omega)
 have hq:=(h.le (Qaw _ _));have q0:=hq.q0;have q5:=hq.q5;have q6:=hq.q6;obtain ⟨qb2,qo2,A0,n0,c0,l0,rfl,hl0,k0,k1,_,_⟩:=hq.part.at_ (i:=j) (by have:=hq.part.1;omega);rw [hl] at hl0
 cases hl0
 obtain ⟨kb,ko,z,rfl,hz,k2⟩:=k1.at_ (i:=v) (by rw [←k1.1];omega);rw [hcv] at hz
 cases hz
 have hLL:L=ls.length:=hq.part.1.symm;have hn0:n0=N.vs.length:=by rw [←k1.1];exact hlen
 have m1:(J:Int)-1=(j:Int):=by omega
 have m2:(0:Int)≤(j:Int):=by omega
 have m3:(j:Int)<(L:Int):=by omega
 have m4:(0:Int)≤(v:Int):=by omega
 have m5:(v:Int)<(n0:Int):=by omega
 have m6:((J:Int) == 0)=false:=by simp;omega
 have m7:(j:Int)+1=(J:Int):=by omega
 simp only [m7] at HGT HFR;have wl:IntKind.i64.wrap (j:Int)=(j:Int):=IntWalk.i64_in _ (by omega);have HX0:=Zh (show Nxw mb w w from Nxw.below (Zr _ _) hm.lt)
 have HJ:=Zh hj;have HJL:=Zh (show J≤1000000000000∧c≤1000000000000 by have:=hlv.hi _ (Zm hcv);omega)
 have HL:=Zh hl;have HX:=Zh hx;have HI:=Zh hi;clear h hGm hmc hok hP hA hSm hy hg hJ hl hlv hgd hc hcm hcv hx hi hq k1 e2 hgl hla hlen hvs hj hcc hm hLL hn0 m7 hil hll hL6
 go_enter func104,ntmps104
 go_wp2_with fail
 with_reducible refine HTO.out.mono ?_
 rintro r w' ⟨rfl,rfl⟩
 cases hf:f J c with
 | some u =>
  obtain ⟨j',l',x',A1,n1,c1,A2,n2,c2,ej,hl',hx',rfl,hr1,hr2⟩:=HMC.out J c u hf;obtain rfl:j=j':=by have:=HJ.out;omega
  rw [HL.out] at hl'
  cases hl'
  rw [HX.out] at hx'
  cases hx'
  have HR1:=Zh hr1;have HR2:=Zh hr2;clear ej hr1 hr2
  go_wp2_with (at_lookup;with_reducible refine Qms rfl _ _ rfl J c rfl HMQ.out rfl HJL.out.1 HJL.out.2 ?_)
  (refine Qad ?_;intro w6 hw6)
  have hb6:Below w.heap.size w w6:=by rw [hw6];exact Qag
  have HC6:=Zh (show Blk w6 w.heap.size 135 #[.slice A1 n1 c1,.slice A2 n2 c2] by rw [hw6];exact Blk.new _ _ _)
  have HX6:=Zh (Nxw.below hb6 HMQ.out.lt);have HMV:=Zh (HMQ.out.below hb6);have HNN:=Zh (show n≤n+1 by omega)
  have HMCV:=Zh (HMC.out.le (HG2.out w6 HX6.out));have HR1:=Zh (HR1.out.le (HG2.out w6 HX6.out));have HR2:=Zh (HR2.out.le (HG2.out w6 HX6.out));clear hw6 hb6 hf;have hq6:=HQ.out w6 HX6.out;have q1:=hq6.q1;have z0:w6.cell? ⟨w.heap.size,0,none⟩=some (.slice A1 n1 c1):=Zq HC6.out;have HPL:=Zh (Qdf A1 n1 c1 x.1 (a:Int) w6 (HR1.out.le (Qaw _ _)) HSO.out (by rw [←HR1.out.1];have:=HGL.out.1;omega));rw [HPI.out] at HPL;clear hq6;with_reducible refine HPL.out.mono ?_
  rintro r w7 ⟨rfl,hb7⟩;have HX7:=Zh (HX6.out.trans (Nxw.below hb7 HMV.out.lt));have HB7:=Zh hb7;have q1:=(HQ.out w7 HX7.out).q1;have HAT:=Zh (HFR.out w7 HX7.out);have w0:¬((i:Int)<0):=by omega
  clear z0 hb7
  by_cases hn0:x.2.length=0
  · have hfr:Qii (gatesOf N.ar ls) (gateRow N.ar l) j c x i = -1:=by unfold Qii;rw [if_pos hn0]
    rw [hfr] at HAT;have HN0:=Zh hn0;clear hfr hn0
    go_wp2_with fail
    with_reducible refine HAT.out.mono ?_
    rintro r w8 ⟨rfl,hb8⟩;have HB8:=Zh (Zb HB7.out hb8);clear hb8 q1
    go_wp2_with fail
    refine wp_region_held_drew (S:=fun V=>V=w8.drew) (by kernel_rfl) rfl (fun _=>?_);refine tz 0 106 ?_;refine tz 1 107 ?_;refine tz 2 108 ?_;refine tz 3 109 ?_;refine tz 4 110 ?_;refine tz 5 111 ?_;refine tz 6 112 ?_;refine tw 7 113 ?_;refine tw 8 114 ?_;refine tw 9 115 ?_;refine tw 10 116 ?_;refine tw 11 117 ?_;refine tw 12 118 ?_;refine tw 13 119 ?_;refine tw 14 120 ?_;refine tw 15 121 ?_;refine tw 16 122 ?_;refine tw 17 123 ?_;refine tz 18 124 ?_;refine Zd ?_;obtain ⟨v9,hv9⟩:∃ V,V=w8.drew:=⟨_,rfl⟩;rw [←hv9];have HB9:=Zh (show Below w6.heap.size w6 v9 by rw [hv9];exact HB8.out.drew)
    clear hv9
    go_wp2_with fail
    refine bodyPost_ret (v:=.tuple #[.slice none 0 0,.slice none 0 0]) (by simp [results,results104,go_sem]) rfl ?_;have hx2:x.2=[]:=List.eq_nil_of_length_eq_zero HN0.out;have hnx:=HNX.out;rw [hx2] at hnx;exact ⟨none,none,0,0,0,n,[],_,f,rfl,hnx,⟨rfl,fun i x h=>by simp at h⟩,⟨by simp,fun i x h=>by simp at h⟩,HMV.out.below HB9.out,HNN.out,HMCV.out.le (G2.more HB9.out),HX6.out.trans (Nxw.below HB9.out HMV.out.lt),by omega⟩
  · obtain ⟨e0,he0⟩:∃ e0,e0=Qfe (gatesOf N.ar ls) (gateRow N.ar l) j c x i 0:=⟨_,rfl⟩
    have hfr:Qii (gatesOf N.ar ls) (gateRow N.ar l) j c x i=(e0:Int):=by unfold Qii;rw [if_neg hn0,he0]
    rw [hfr] at HAT;have HNX2:=Zh HNX.out;rw [←he0] at HNX2;have hn2:n2=x.2.length:=HR2.out.1.symm;have hlen2:=HNX2.out.len;rw [Yw,List.length_drop,HCL.out.1] at hlen2;have hbd:e0+n2≤NC∧0<n2∧n2≤16384:=by have:=HGL.out;omega
    have hcx:=HCC.out;have HCT:=Zh (Qio CA NC cC e0 n2 (by omega) hbd.2.1);have HBD:=Zh hbd;have w1:¬((e0:Int)<0):=by omega
    have w2:¬((NC:Int)<(e0:Int)+(n2:Int)):=by omega
    have w3:decide ((i:Int)<0)=false:=by simp
    have w4:decide ((e0:Int)<0)=false:=by simp
    have w5:decide ((NC:Int)<(e0:Int)+(n2:Int))=false:=by simp;omega
    have HWR:=Zh (show IntKind.i64.wrap ((e0:Int)+(n2:Int))=(e0:Int)+(n2:Int) from IntWalk.i64_in _ (by omega))
    have hwr:=HWR.out;have hct:=HCT.out;have HN2:=Zh hn2;clear hfr he0 hn0 hn2 hlen2 hbd hcx
    go_wp2_with fail
    with_reducible refine HAT.out.mono ?_
    rintro r w8 ⟨rfl,hb8⟩;have HX8:=Zh (HX7.out.trans (Nxw.below hb8 (Yu HMV.out.lt HB7.out.size)));have HB8:=Zh (Zb HB7.out hb8);have HC8:=Zh (HC6.out.below HB8.out HC6.out.lt);have HSX:=Zh (show ∀ V,Below w8.heap.size w8 V→V.cell? ⟨qb,2,none⟩=some (.slice CA NC cC)∧V.cell? ⟨w.heap.size,1,none⟩=some (.slice A2 n2 c2) from fun V hV=>⟨Zc hV (Zn _) (HQ.out w8 HX8.out).q2,Zc hV (Zn _) (Zq HC8.out)⟩)
    clear hb8 q1
    go_wp2_with fail
    refine wp_region_held_drew (S:=fun V=>Below w8.heap.size w8 V) (by kernel_rfl) (Zr _ _).drew (fun _=>?_);refine tz 0 106 ?_;refine tz 1 107 ?_;refine tz 2 108 ?_;refine tz 3 109 ?_;refine tz 4 110 ?_;refine tz 5 111 ?_;refine tz 6 112 ?_;refine tz 7 113 ?_;refine tz 8 114 ?_;refine tz 9 115 ?_;refine tz 10 116 ?_;refine tz 11 117 ?_;refine tz 12 118 ?_;refine tz 13 119 ?_;refine tz 14 120 ?_;refine tz 15 121 ?_;refine tz 16 122 ?_;refine tz 17 123 ?_;refine tz 18 124 ?_;refine Zd ?_
    go_wp2_with fail
    refine wp_region_held_drew (S:=fun V=>Below w8.heap.size w8 V) (by kernel_rfl) (Zr _ _).drew.drew (fun _=>?_);refine tz 0 125 ?_;refine tz 1 126 ?_;refine tz 2 127 ?_;refine tz 3 128 ?_;refine tz 4 129 ?_;refine tz 5 130 ?_;refine tz 6 131 ?_;refine tz 7 132 ?_;refine tz 8 133 ?_;refine tz 9 134 ?_;refine tz 10 135 ?_;refine tz 11 136 ?_;refine tz 12 137 ?_;refine tz 13 6 ?_;refine tz 14 7 ?_;refine Zd ?_;obtain ⟨v9,hv9⟩:∃ V,V=w8.drew.drew:=⟨_,rfl⟩;rw [←hv9];have HB9:=Zh (show Below w6.heap.size w6 v9 by rw [hv9];exact HB8.out.drew.drew)
    clear hv9
    go_wp2_with fail
    refine bodyPost_ret (v:=.tuple #[.slice A2 n2 c2,.slice (CA.map (·.add e0)) n2 (cC-e0)]) (by simp [results,results104,go_sem]) rfl ?_;have hcl:=HCL.out.sub e0 n2 HBD.out.1;rw [HN2.out] at hcl;refine ⟨A2,_,n2,c2,_,n,x.2,_,f,rfl,HNX2.out,HR2.out.le (G2.more HB9.out),?_,HMV.out.below HB9.out,HNN.out,HMCV.out.le (G2.more HB9.out),HX6.out.trans (Nxw.below HB9.out HMV.out.lt),HBD.out.2.2⟩;rw [HN2.out];exact hcl.le (HG2.out v9 (HX6.out.trans (Nxw.below HB9.out HMV.out.lt)))
 | none =>
  have q1:=(HQ.out w HX0.out).q1;have hqb:qb<w.heap.size:=Qaj q1
  go_wp2_with (at_lookup;with_reducible refine Qms rfl _ _ rfl J c rfl HMQ.out rfl HJL.out.1 HJL.out.2 ?_)
  (refine Qad ?_;intro w6 hw6)
  have hb6:Below w.heap.size w w6:=by rw [hw6];exact Qag
  have hC6:Blk w6 w.heap.size 135 #[.slice none 0 0,.slice none 0 0]:=by rw [hw6];exact Blk.new _ _ _
  have HX6:=Zh (Nxw.below hb6 HMQ.out.lt);clear hw6 hf q1;with_reducible refine (HGT.out w6 HX6.out).mono ?_
  rintro r w7 ⟨A1,n1,c1,A2,n2,c2,rfl,ho1,ho2,hb7⟩;have hC7:=hC6.below hb7 hC6.lt;obtain ⟨z0,z1,f0,f1⟩:=hC7.two;have HO1:=Zh ((ho1.far (Qaa w7 w.heap.size 0 (.slice A1 n1 c1)) (.inr (ho1.ne hC6.lt))).far (Qaa _ w.heap.size 1 (.slice A2 n2 c2)) (.inr (ho1.ne hC6.lt)));have HO2:=Zh ((ho2.far (Qaa w7 w.heap.size 0 (.slice A1 n1 c1)) (.inr (ho2.ne hC6.lt))).far (Qaa _ w.heap.size 1 (.slice A2 n2 c2)) (.inr (ho2.ne hC6.lt)));have HB7:=Zh (Zi (o:=1) (u:=.slice A2 n2 c2) (Zi (o:=0) (u:=.slice A1 n1 c1) (Zb hb6 hb7) (Zn _)) (Zn _));have HC7:=Zh ((hC7.set_ 0 (.slice A1 n1 c1)).set_ 1 (.slice A2 n2 c2));have HZ6:=Zh (show w.heap.size≤w6.heap.size from hb6.size)
  clear ho1 ho2 hC6 hC7 hb6 hb7
  go_wp2_with fail
  (refine Qai ?_;intro w8 hw8)
  have hb8:Below w.heap.size w w8:=by rw [hw8];exact HB7.out
  have HC8:=Zh (show Blk w8 w.heap.size 135 #[.slice A1 n1 c1,.slice A2 n2 c2] by rw [hw8];exact HC7.out)
  have HO1:=Zh (show Own w8 w6.heap.size 3 1 A1 n1 c1 (Qaf x.1) by rw [hw8];exact HO1.out)
  have HO2:=Zh (show Own w8 w6.heap.size 3 1 A2 n2 c2 (Qaf x.2) by rw [hw8];exact HO2.out)
  have HB8:=Zh hb8;have HX8:=Zh (Nxw.below hb8 HMQ.out.lt);clear hw8 hb8 HB7 HC7;have x6:=(HQ.out w8 HX8.out).q6;have z0:w8.cell? ⟨w.heap.size,0,none⟩=some (.slice A1 n1 c1):=Zq HC8.out;have z1:w8.cell? ⟨w.heap.size,1,none⟩=some (.slice A2 n2 c2):=Zq HC8.out;refine Qbq 8 (S:=fun V=>V.cell? ⟨qb,6,none⟩=some (.map (some mb))∧V.cell? ⟨w.heap.size,0,none⟩=some (.slice A1 n1 c1)∧V.cell? ⟨w.heap.size,1,none⟩=some (.slice A2 n2 c2)) (by kernel_rfl) ⟨x6,z0,z1⟩ (fun _=>?_);refine tkK 0 86 (h:=⟨_,tv,?_⟩);simp only [pE,List.set];refine tkK 1 87 (h:=⟨_,tv,?_⟩);simp only [pE,List.set];refine tkK 2 88 (h:=⟨_,tv,?_⟩);simp only [pE,List.set];refine tkK 3 89 (h:=⟨_,tv,?_⟩);simp only [pE,List.set];refine tkK 4 90 (h:=⟨_,tv,?_⟩);simp only [pE,List.set];refine tkK 5 91 (h:=⟨_,tv,?_⟩);simp only [pE,List.set];refine tkK 6 92 (h:=⟨_,tv,?_⟩);simp only [pE,List.set];refine tkK 7 93 (h:=⟨_,tv,?_⟩);simp only [pE,List.set];have hmq8:MpQ w8.drew mb n f:=(HMQ.out.below HB8.out).at_ rfl;refine Qca (k:=8) (by kernel_rfl) rfl (fun K hK=>?_);refine (if_pos (by rfl)).mpr ?_;refine Qjb _ _ _ rfl J c _ rfl hmq8 (by omega) rfl rfl HJL.out.1 HJL.out.2 (fun w9 hm9 hg9=>?_);refine hK.out _ _ ?_;clear hK K;refine Qbx (by kernel_rfl) ?_ _;clear x6 z0 z1 hmq8;have hX8:Nxw mb w w8.drew:=Nxw.below HB8.out.drew HMQ.out.lt;have HX9:=Zh (hX8.trans (Nxw.grown hg9 (Yu HMQ.out.lt HB8.out.size)));have hC8:Blk w8.drew w.heap.size 135 #[.slice A1 n1 c1,.slice A2 n2 c2]:=HC8.out;have HC9:=Zh (hC8.grown hg9 (fun e=>by have:=HMQ.out.lt;cases e;omega))
  have ho1:Own w8.drew w6.heap.size 3 1 A1 n1 c1 (Qaf x.1):=HO1.out;have ho2:Own w8.drew w6.heap.size 3 1 A2 n2 c2 (Qaf x.2):=HO2.out;have hmb6:mb<w6.heap.size:=Yu HMQ.out.lt HZ6.out
  have HR1:=Zh (show RdI (msk w9 (G2 G w w9)) A1 n1 x.1 from (ho1.far hg9 (.inr (ho1.ne hmb6))).rdM (fun b h1 h2=>.inr ⟨Yx HZ6.out h1,h2⟩))
  have HR2:=Zh (show RdI (msk w9 (G2 G w w9)) A2 n2 x.2 from (ho2.far hg9 (.inr (ho2.ne hmb6))).rdM (fun b h1 h2=>.inr ⟨Yx HZ6.out h1,h2⟩))
  have HMV:=Zh hm9;have HNN:=Zh (show n+1≤n+1 from Zn _)
  have hput:=(HMC.out.le (HG2.out w9 HX9.out)).put (c1:=c1) (c2:=c2) HL.out HX.out HR1.out HR2.out;rw [←HJ.out] at hput;have HMCV:=Zh hput;clear hput ho1 ho2 hmb6 hC8 hX8 hg9 hm9 HX8 HC8 HO1 HO2 HB8 HX6;have z0:w9.cell? ⟨w.heap.size,0,none⟩=some (.slice A1 n1 c1):=Zq HC9.out;have HX6:=HX9;have HC6:=HC9;clear HX9 HC9
  go_wp2_with fail
  clear z0;have hq6:=HQ.out w9 HX6.out;have q1:=hq6.q1;have z0:w9.cell? ⟨w.heap.size,0,none⟩=some (.slice A1 n1 c1):=Zq HC6.out;have HPL:=Zh (Qdf A1 n1 c1 x.1 (a:Int) w9 (HR1.out.le (Qaw _ _)) HSO.out (by rw [←HR1.out.1];have:=HGL.out.1;omega));rw [HPI.out] at HPL;clear hq6;with_reducible refine HPL.out.mono ?_
  rintro r w7 ⟨rfl,hb7⟩;have HX7:=Zh (HX6.out.trans (Nxw.below hb7 HMV.out.lt));have HB7:=Zh hb7;have q1:=(HQ.out w7 HX7.out).q1;have HAT:=Zh (HFR.out w7 HX7.out);have w0:¬((i:Int)<0):=by omega
  clear z0 hb7
  by_cases hn0:x.2.length=0
  · have hfr:Qii (gatesOf N.ar ls) (gateRow N.ar l) j c x i = -1:=by unfold Qii;rw [if_pos hn0]
    rw [hfr] at HAT;have HN0:=Zh hn0;clear hfr hn0
    go_wp2_with fail
    with_reducible refine HAT.out.mono ?_
    rintro r w8 ⟨rfl,hb8⟩;have HB8:=Zh (Zb HB7.out hb8);clear hb8 q1
    go_wp2_with fail
    refine wp_region_held_drew (S:=fun V=>V=w8.drew) (by kernel_rfl) rfl (fun _=>?_);refine tz 0 106 ?_;refine tz 1 107 ?_;refine tz 2 108 ?_;refine tz 3 109 ?_;refine tz 4 110 ?_;refine tz 5 111 ?_;refine tz 6 112 ?_;refine tw 7 113 ?_;refine tw 8 114 ?_;refine tw 9 115 ?_;refine tw 10 116 ?_;refine tw 11 117 ?_;refine tw 12 118 ?_;refine tw 13 119 ?_;refine tw 14 120 ?_;refine tw 15 121 ?_;refine tw 16 122 ?_;refine tw 17 123 ?_;refine tz 18 124 ?_;refine Zd ?_;obtain ⟨v9,hv9⟩:∃ V,V=w8.drew:=⟨_,rfl⟩;rw [←hv9];have HB9:=Zh (show Below w9.heap.size w9 v9 by rw [hv9];exact HB8.out.drew)
    clear hv9
    go_wp2_with fail
    refine bodyPost_ret (v:=.tuple #[.slice none 0 0,.slice none 0 0]) (by simp [results,results104,go_sem]) rfl ?_;have hx2:x.2=[]:=List.eq_nil_of_length_eq_zero HN0.out;have hnx:=HNX.out;rw [hx2] at hnx;exact ⟨none,none,0,0,0,(n+1),[],_,(fun p q=>if p=J∧q=c then some (.agg #[.slice A1 n1 c1,.slice A2 n2 c2]) else f p q),rfl,hnx,⟨rfl,fun i x h=>by simp at h⟩,⟨by simp,fun i x h=>by simp at h⟩,HMV.out.below HB9.out,HNN.out,HMCV.out.le (G2.more HB9.out),HX6.out.trans (Nxw.below HB9.out HMV.out.lt),by omega⟩
  · obtain ⟨e0,he0⟩:∃ e0,e0=Qfe (gatesOf N.ar ls) (gateRow N.ar l) j c x i 0:=⟨_,rfl⟩
    have hfr:Qii (gatesOf N.ar ls) (gateRow N.ar l) j c x i=(e0:Int):=by unfold Qii;rw [if_neg hn0,he0]
    rw [hfr] at HAT;have HNX2:=Zh HNX.out;rw [←he0] at HNX2;have hn2:n2=x.2.length:=HR2.out.1.symm;have hlen2:=HNX2.out.len;rw [Yw,List.length_drop,HCL.out.1] at hlen2;have hbd:e0+n2≤NC∧0<n2∧n2≤16384:=by have:=HGL.out;omega
    have hcx:=HCC.out;have HCT:=Zh (Qio CA NC cC e0 n2 (by omega) hbd.2.1);have HBD:=Zh hbd;have w1:¬((e0:Int)<0):=by omega
    have w2:¬((NC:Int)<(e0:Int)+(n2:Int)):=by omega
    have w3:decide ((i:Int)<0)=false:=by simp
    have w4:decide ((e0:Int)<0)=false:=by simp
    have w5:decide ((NC:Int)<(e0:Int)+(n2:Int))=false:=by simp;omega
    have HWR:=Zh (show IntKind.i64.wrap ((e0:Int)+(n2:Int))=(e0:Int)+(n2:Int) from IntWalk.i64_in _ (by omega))
    have hwr:=HWR.out;have hct:=HCT.out;have HN2:=Zh hn2;clear hfr he0 hn0 hn2 hlen2 hbd hcx
    go_wp2_with fail
    with_reducible refine HAT.out.mono ?_
    rintro r w8 ⟨rfl,hb8⟩;have HX8:=Zh (HX7.out.trans (Nxw.below hb8 (Yu HMV.out.lt HB7.out.size)));have HB8:=Zh (Zb HB7.out hb8);have HC8:=Zh (HC6.out.below HB8.out HC6.out.lt);have HSX:=Zh (show ∀ V,Below w8.heap.size w8 V→V.cell? ⟨qb,2,none⟩=some (.slice CA NC cC)∧V.cell? ⟨w.heap.size,1,none⟩=some (.slice A2 n2 c2) from fun V hV=>⟨Zc hV (Zn _) (HQ.out w8 HX8.out).q2,Zc hV (Zn _) (Zq HC8.out)⟩)
    clear hb8 q1
    go_wp2_with fail
    refine wp_region_held_drew (S:=fun V=>Below w8.heap.size w8 V) (by kernel_rfl) (Zr _ _).drew (fun _=>?_);refine tz 0 106 ?_;refine tz 1 107 ?_;refine tz 2 108 ?_;refine tz 3 109 ?_;refine tz 4 110 ?_;refine tz 5 111 ?_;refine tz 6 112 ?_;refine tz 7 113 ?_;refine tz 8 114 ?_;refine tz 9 115 ?_;refine tz 10 116 ?_;refine tz 11 117 ?_;refine tz 12 118 ?_;refine tz 13 119 ?_;refine tz 14 120 ?_;refine tz 15 121 ?_;refine tz 16 122 ?_;refine tz 17 123 ?_;refine tz 18 124 ?_;refine Zd ?_
    go_wp2_with fail
    refine wp_region_held_drew (S:=fun V=>Below w8.heap.size w8 V) (by kernel_rfl) (Zr _ _).drew.drew (fun _=>?_);refine tz 0 125 ?_;refine tz 1 126 ?_;refine tz 2 127 ?_;refine tz 3 128 ?_;refine tz 4 129 ?_;refine tz 5 130 ?_;refine tz 6 131 ?_;refine tz 7 132 ?_;refine tz 8 133 ?_;refine tz 9 134 ?_;refine tz 10 135 ?_;refine tz 11 136 ?_;refine tz 12 137 ?_;refine tz 13 6 ?_;refine tz 14 7 ?_;refine Zd ?_;obtain ⟨v9,hv9⟩:∃ V,V=w8.drew.drew:=⟨_,rfl⟩;rw [←hv9];have HB9:=Zh (show Below w9.heap.size w9 v9 by rw [hv9];exact HB8.out.drew.drew)
    clear hv9
    go_wp2_with fail
    refine bodyPost_ret (v:=.tuple #[.slice A2 n2 c2,.slice (CA.map (·.add e0)) n2 (cC-e0)]) (by simp [results,results104,go_sem]) rfl ?_;have hcl:=HCL.out.sub e0 n2 HBD.out.1;rw [HN2.out] at hcl;refine ⟨A2,_,n2,c2,_,(n+1),x.2,_,(fun p q=>if p=J∧q=c then some (.agg #[.slice A1 n1 c1,.slice A2 n2 c2]) else f p q),rfl,HNX2.out,HR2.out.le (G2.more HB9.out),?_,HMV.out.below HB9.out,HNN.out,HMCV.out.le (G2.more HB9.out),HX6.out.trans (Nxw.below HB9.out HMV.out.lt),HBD.out.2.2⟩;rw [HN2.out];exact hcl.le (HG2.out v9 (HX6.out.trans (Nxw.below HB9.out HMV.out.lt)))
end Go.Proofs.YtdheeddnkdhfeaaGreatDoor
