/- Parts of the proof: G4, Ov, Gs, Og, Ki. -/
import Derived.Test.YthoagdpakddbdaaGreatDoorK1
import Derived.Test.YthoagdpakddbdaaGreatDoorK9
import Derived.Test.YthoagdpakddbdaaGreatDoorK11
import Derived.Test.YthoagdpakddbdaaGreatDoorK12
import Derived.Test.YthoagdpakddbdaaGreatDoorShelf
import Derived.Test.YthoagdpakddbdaaGreatDoorShelf2
import Derived.Sort.OwnSortedInts
import Derived.Lib.RowBridge
namespace Go.Proofs.YthoagdpakddbdaaGreatDoor
open Go.RowKit Go.Proofs.Tryz
attribute [local go_sem ↓] Go.wp_at_zero Go.wp_at_succ
theorem GrO.mono {W:World}{F F':Nat→Prop}{g:Nat}{N:Qaj}(h:GrO W F g N)(hs:∀ b,F b→F' b)(hl:∀ b,F' b→b<W.heap.size):GrO W F' g N:=by
 obtain ⟨G,A,B,C,I,O,P,n,m,k,c,d,e,ci,co,cp,h⟩:=h;exact ⟨G,A,B,C,I,O,P,n,m,k,c,d,e,ci,co,cp,h.net,h.blk,h.gg,h.ins,h.outs,h.plc,fun b hb=>hs b (h.sub b hb),hl,h.ok,h.c0,h.c1,h.c2⟩
theorem Qas.costs {N:Qaj}(h:Qas N):∀ t∈N.ts,t.costs.length≤1000000:=fun t ht=>by
 have hT:=h.tabs t ht;have hm:=Qnp hT.i0 hT.i16 hT.o0 hT.o16;have:=hT.len;omega
set_option maxHeartbeats 1000000 in
theorem Qox (A B C:Option Addr)(n m k c d e:Nat)(N:Qaj)(w:World)(h:Qbm w A B C n m k N)(hN:Qas N) :
 Calls prog 46 #[.agg #[.slice A n c,.slice B m d,.slice C k e]] w fun r w'=>∃ g,r=.returned (.tuple #[.pointer (some ⟨g,0,none⟩),.nilIface])∧GrO w' (fun b=>w.heap.size≤b∧b<w'.heap.size) g N∧Below w.heap.size w w':=by
 have HH:=Zh h;have HN:=Zh hN;have hn:n≤4096:=by rw [←h.1.1];exact hN.lv
 have hm:m≤16384:=by rw [←h.2.1.1];exact hN.la
 have hk:k≤256:=by rw [←h.2.2.1];exact hN.lt
 clear h hN
 go_enter func46,ntmps46
 go_wp2_with fail
 (refine Qac ?_;intro w1 hw1)
 have hb1:Below w.heap.size w w1:=by rw [hw1];exact Qae
 have hJ:Blk w1 w.heap.size 120 #[.slice A n c,.slice B m d,.slice C k e]:=by rw [hw1];exact Qau
 clear hw1;with_reducible refine (Qor A B C n m k c d e N w1 (HH.out.below hb1) HN.out).mono ?_
 rintro r w2 ⟨rfl,hb2⟩;have hbw2:=Zb hb1 hb2;obtain ⟨j0,j1,j2⟩:=(hJ.below hb2 hJ.lt).three;clear hJ hb2
 go_wp2_with fail
 with_reducible refine (Qgc A B C n m k c d e N w2 (HH.out.below hbw2) (by omega) (by omega) (by omega) HN.out.costs).mono ?_
 rintro r w3 ⟨A',B',C',c',d',e',rfl,hR,hbc,q1,q2,q3,q4,q5,q6,hb3⟩;have hbw3:=Zb hbw2 hb3;have HC:=Zh (Qub _ A' B' C' n m k c' d' e' N w3 hR (fun b hb=>hb.2.1) HN.out ⟨q1,q2⟩ ⟨q3,q4⟩ ⟨q5,q6⟩);have HBC:=Zh hbc;have HWA:=Zh hR.wa;have HWT:=Zh hR.wt;clear hR hbc q1 q2 q3 q4 q5 q6 j0 j1 j2
 go_wp2_with fail
 with_reducible refine HC.out.mono ?_
 rintro r w4 ⟨g,rfl,hG,hb4⟩;have HG:=Zh hG;clear hG HC
 go_wp2_with fail
 go_ret2
 have h1:=hbw2.size;have h3:=hb3.size;have h4:=hb4.size;refine ⟨g,rfl,HG.out.mono (fun b hb=>?_) (fun b hb=>hb.2),Zb hbw3 hb4⟩
 rcases hb with hb|hb|hb|hb
 · exact ⟨by omega,by omega⟩
 · have z1:=HBC.out b (.inl hb);have z2:=(HWA.out b hb).1;exact ⟨by omega,by omega⟩
 · have z1:=HBC.out b (.inr hb);have z2:=(HWT.out b hb).1;exact ⟨by omega,by omega⟩
 · exact ⟨by omega,by omega⟩
set_option maxHeartbeats 1000000 in
theorem Qlm (A B C:Option Addr)(n m k c d e:Nat)(N:Qaj)(w:World)(h:Qbm w A B C n m k N)(hN:Qas N) :
 Calls prog 17 #[.agg #[.slice A n c,.slice B m d,.slice C k e]] w fun r w'=>∃ g,r=.returned (.pointer (some ⟨g,0,none⟩))∧GrO w' (fun b=>w.heap.size≤b∧b<w'.heap.size) g N∧Below w.heap.size w w':=by
 have HH:=Zh h;have HN:=Zh hN;have hn:n≤4096:=by rw [←h.1.1];exact hN.lv
 have hm:m≤16384:=by rw [←h.2.1.1];exact hN.la
 have hk:k≤256:=by rw [←h.2.2.1];exact hN.lt
 clear h hN
 go_enter func17,ntmps17
 go_wp2_with fail
 (refine Qac ?_;intro w1 hw1)
 have hb1:Below w.heap.size w w1:=by rw [hw1];exact Qae
 clear hw1;with_reducible refine (Qwj A B C n m k c d e N w1 (HH.out.below hb1) (by omega) (by omega) (by omega) HN.out.costs).mono ?_
 rintro r w2 ⟨A',B',C',c',d',e',rfl,hR,hb2⟩;have hbw2:=Zb hb1 hb2;have HC:=Zh (Qox A' B' C' n m k c' d' e' N w2 hR HN.out);clear hR
 go_wp2_with fail
 with_reducible refine HC.out.mono ?_
 rintro r w3 ⟨g,rfl,hG,hb3⟩;have HG:=Zh hG;clear hG HC
 go_wp2_with fail
 go_ret
 have h1:=hbw2.size;exact ⟨g,rfl,HG.out.mono (fun b hb=>⟨by omega,hb.2⟩) (fun b hb=>hb.2),Zb hbw2 hb3⟩
theorem Own.keep {w w':World}{B s n c:Nat}{e:TypeId}{A:Option Addr}{xs:List Value}(h:Own w B e s A n c xs) (hk:∀ b,Qab A=some b→w'.heap[b]?=w.heap[b]?):Own w' B e s A n c xs:=by
 refine ⟨h.1,?_⟩
 rcases h.2 with h'|⟨g,cap,cur,h1,h2,h3,h4⟩
 · exact .inl h'
 · refine .inr ⟨g,cap,cur,h1,h2,?_,h4⟩
   cases h1
   exact (hk g rfl).trans h3
theorem RdK.keepB {k:IntKind}{w w':World}{A:Option Addr}{n:Nat}{l:List Int}(h:RdK k w A n l) (hk:∀ b,Qab A=some b→w'.heap[b]?=w.heap[b]?):RdK k w' A n l :=
 ⟨h.1,fun i x hx=>by
  obtain ⟨b,o,e,hc⟩:=h.2 i x hx;exact ⟨b,o,e,Qdd (hk b (by rw [e];rfl)) hc⟩⟩
theorem RwL.keep {W W':World}{B n c:Nat}{A:Option Addr}{xs:List Value} {ls:List (List Int)} (h:RwL W B A n c xs ls) (hz:W.heap.size≤W'.heap.size) (hk:∀ b,B≤b→b<W.heap.size→W'.heap[b]?=W.heap[b]?):RwL W' B A n c xs ls :=
 ⟨h.1.keep (fun b hb=>hk b (h.1.lt b hb).1 (h.1.lt b hb).2),h.2.1,fun i l hl=>by
  obtain ⟨A',n',c',p1,h2,h3,h4,h5⟩:=h.2.2 i l hl;exact ⟨A',n',c',p1,h2.keepB (fun g hg=>hk g (h3 g hg).1 (h3 g hg).2.1),fun g hg=>⟨(h3 g hg).1,Nat.lt_of_lt_of_le (h3 g hg).2.1 hz,(h3 g hg).2.2⟩,h4,h5⟩⟩
def szG (x:Qal):Nat:=x.1.length*x.2.length
def Qde (row:List Qal):Nat:=(row.map szG).sum
def Qbo (gs:List (List Qal)):Nat:=(gs.map Qde).sum
theorem sumS_app (r:List Qal)(x:Qal):Qde (r ++[x])=Qde r+szG x:=by simp [Qde]
theorem sumA_app (r:List (List Qal)) (x:List Qal):Qbo (r ++[x])=Qbo r+Qde x:=by simp [Qbo]
theorem Qcy {r:List Qal}{j:Nat}{x:Qal} (h:r[j]?=some x):Qde (r.take (j+1))=Qde (r.take j)+szG x:=by
 rw [List.take_succ_eq_append_getElem (Zs h).1,(Zs h).2,sumS_app]
theorem Qdc {r:List (List Qal)} {j:Nat} {x:List Qal} (h:r[j]?=some x):Qbo (r.take (j+1))=Qbo (r.take j)+Qde x:=by
 rw [List.take_succ_eq_append_getElem (Zs h).1,(Zs h).2,sumA_app]
def Qgo (s:Nat)(row:List Qal):List Int:=(List.range row.length).map (fun j:Nat=>((s+Qde (row.take j):Nat):Int))
theorem Qek (s:Nat)(row:List Qal):(Qgo s row).length=row.length:=by simp [Qgo]
theorem Qoi {s j:Nat}{row:List Qal}(h:j<row.length):(Qgo s row)[j]?=some ((s+Qde (row.take j):Nat):Int):=by
 unfold Qgo;rw [List.getElem?_map,List.getElem?_range h]
 rfl
def Qsl (gs:List (List Qal)):List (List Int):=(List.range gs.length).map (fun i:Nat=>Qgo (Qbo (gs.take i)) (gs.getD i []))
theorem Qtz (gs:List (List Qal)):(Qsl gs).length=gs.length:=by simp [Qsl]
theorem Qoj {gs:List (List Qal)} {i:Nat} {row:List Qal} (h:gs[i]?=some row):(Qsl gs)[i]?=some (Qgo (Qbo (gs.take i)) row):=by
 unfold Qsl;rw [List.getElem?_map,List.getElem?_range (Zs h).1,Option.map_some,List.getD_eq_getElem?_getD,h]
 rfl
theorem Qtf {s j:Nat}{row:List Qal}(h:j<row.length):((Qgo s row).take j ++List.replicate (row.length-j) 0).set j ((s+Qde (row.take j):Nat):Int)=(Qgo s row).take (j+1) ++List.replicate (row.length-(j+1)) 0:=by
 have hl:((Qgo s row).take j).length=j:=by rw [List.length_take,Qek];omega
 have e:=Qoi (s:=s) h;rw [List.set_append_right _ _ (by rw [hl];exact Zn _),hl,Nat.sub_self,List.take_succ_eq_append_getElem (by rw [Qek];exact h),(Zs e).2];obtain ⟨m,hm⟩:∃ m,row.length-j=m+1:=⟨row.length-j-1,by omega⟩;rw [hm,show row.length-(j+1)=m by omega]
 simp [List.replicate_succ]
structure OvV (W:World) (o:Nat) (Q F T G S:Option Addr) (L m cq cf ct cg cs:Nat) (ar:List Tri) (ls:List (List Int)):Prop where
 n0:W.cell? ⟨o,0,none⟩=some (.slice Q L cq)
 n1:W.cell? ⟨o,1,none⟩=some (.slice F m cf)
 n2:W.cell? ⟨o,2,none⟩=some (.slice T m ct)
 n3:W.cell? ⟨o,3,none⟩=some (.slice G L cg)
 n4:W.cell? ⟨o,4,none⟩=some (.slice S L cs)
 n5:W.cell? ⟨o,5,none⟩=some (.int .i64 ((Qbo (gatesOf ar ls):Nat):Int))
 part:RdT W Q L ls
 fr:RdI W F m (ar.map (·.1))
 to:RdI W T m (ar.map (·.2.1))
 gates:RdG W G L (gatesOf ar ls)
 starts:RdT W S L (Qsl (gatesOf ar ls))
 c0:L≤cq∧cq≤9223372036854775807
def Qex (W:World)(o:Nat)(ar:List Tri) (ls:List (List Int)):Prop:=∃ (Q F T G S:Option Addr) (L m cq cf ct cg cs:Nat),OvV W o Q F T G S L m cq cf ct cg cs ar ls
theorem Qex.le {W W':World}{o:Nat}{ar:List Tri} {ls:List (List Int)} (h:Qex W o ar ls) (hl:Le W W'):Qex W' o ar ls:=by
 obtain ⟨Q,F,T,G,S,L,m,cq,cf,ct,cg,cs,h⟩:=h;exact ⟨Q,F,T,G,S,L,m,cq,cf,ct,cg,cs,hl _ _ h.n0,hl _ _ h.n1,hl _ _ h.n2,hl _ _ h.n3,hl _ _ h.n4,hl _ _ h.n5,h.part.le hl,h.fr.le hl,h.to.le hl,h.gates.le hl,h.starts.le hl,h.c0⟩
theorem Qex.below {W W':World}{o:Nat}{ar:List Tri} {ls:List (List Int)} (h:Qex W o ar ls) (hb:Below W.heap.size W W'):Qex W' o ar ls:=h.le (Le.below hb)
theorem Qbk {ar:List Tri}{l:List Int}{c:Nat}{x:Qal} (h:(gateRow ar l)[c]?=some x):x.1.length≤ar.length∧x.2.length≤ar.length:=by
 have hc:c<(Qam l).toNat:=by rw [←Qan ar l];exact (Zs h).1
 rw [Qce hc] at h
 cases h
 exact ⟨Nat.le_trans (List.length_filter_le _ _) (Qlp _ _),Nat.le_trans (List.length_filter_le _ _) (Qlp _ _)⟩
theorem Qqq {l:List Nat}{b:Nat}(h:∀ x∈l,x≤b):l.sum≤l.length*b:=by
 induction l with
 | nil=>simp
 | cons x t ih =>
  have h1:=h x (List.mem_cons_self ..);have h2:=ih (fun y hy=>h y (List.mem_cons_of_mem _ hy));simp only [List.sum_cons,List.length_cons,Nat.add_mul,Nat.one_mul];omega
theorem Qwk {ar:List Tri}{l:List Int}{j n:Nat}(ha:ar.length≤16384)(hl:Qen n l)(hn:n≤4096):Qde ((gateRow ar l).take j)≤4096*268435456:=by
 unfold Qde;refine Nat.le_trans (Qqq (b:=268435456) (fun y hy=>?_)) ?_
 · obtain ⟨x,hx,rfl⟩:=List.mem_map.1 hy
   obtain ⟨c,hc⟩:=List.getElem?_of_mem (List.mem_of_mem_take hx);have h1:=Qbk hc;unfold szG;exact Nat.le_trans (Nat.mul_le_mul (show x.1.length≤16384 by omega) (show x.2.length≤16384 by omega)) (by omega)
 · refine Nat.mul_le_mul_right _ ?_
   rw [List.length_map,List.length_take,Qan];have:=Qcd (l:=l) (n:=(n:Int)) (fun x hx=>hl.hi x hx) (by omega);omega
theorem sumA_le {ar:List Tri} {ls:List (List Int)} {i n:Nat} (ha:ar.length≤16384) (hP:Qcl n ls) (hn:n≤4096):Qbo ((gatesOf ar ls).take i)≤6*(4096*268435456):=by
 unfold Qbo;refine Nat.le_trans (Qqq (b:=4096*268435456) (fun y hy=>?_)) ?_
 · obtain ⟨row,hrow,rfl⟩:=List.mem_map.1 hy
   have hm:=List.mem_of_mem_take hrow;unfold gatesOf at hm;obtain ⟨l,hl,rfl⟩:=List.mem_map.1 hm;have:=Qwk (j:=(gateRow ar l).length) ha (hP.lvl l hl) hn;rw [List.take_length] at this;exact this
 · refine Nat.mul_le_mul_right _ ?_
   have:=hP.l6;simp [gatesOf];omega
theorem Qhz {ar:List Tri}{l:List Int}{c:Nat}{x:Qal} (h:(gateRow ar l)[c]?=some x):x.1.Pairwise (·<·):=by
 have hc:c<(Qam l).toNat:=by rw [←Qan ar l];exact (Zs h).1
 rw [Qce hc] at h
 cases h
 exact List.Pairwise.filter _ (Qjg _ _)
theorem Qff {ar:List Tri}{l:List Int}{c:Nat}{x:Qal} (h:(gateRow ar l)[c]?=some x):x.2.Pairwise (·<·):=by
 have hc:c<(Qam l).toNat:=by rw [←Qan ar l];exact (Zs h).1
 rw [Qce hc] at h
 cases h
 exact List.Pairwise.filter _ (Qjg _ _)
theorem Qgg (o:Nat)(ar:List Tri) (ls:List (List Int)) (w:World) (h:Qex w o ar ls):Calls prog 39 #[.pointer (some ⟨o,0,none⟩)] w fun e w'=>e=.returned (.int .i64 (ls.length:Int))∧w=w':=by
 obtain ⟨Q,F,T,G,S,L,m,cq,cf,ct,cg,cs,h⟩:=h;have h0:=h.n0;have HL:=Zh h.part.1;clear h
 go_enter func39,ntmps39
 go_wp2
 go_ret
 exact ⟨Qbs (by rw [HL.out]),rfl⟩
theorem Qgw (o:Nat)(ar:List Tri) (ls:List (List Int)) (w:World) (h:Qex w o ar ls):Calls prog 38 #[.pointer (some ⟨o,0,none⟩)] w fun e w'=>e=.returned (.int .i64 ((Qbo (gatesOf ar ls):Nat):Int))∧w=w':=by
 obtain ⟨Q,F,T,G,S,L,m,cq,cf,ct,cg,cs,h⟩:=h;have h0:=h.n5;clear h;generalize Qbo (gatesOf ar ls)=z at *
 go_enter func38,ntmps38
 go_wp2
 go_ret
 exact ⟨rfl,rfl⟩
theorem Qbf {ar:List Tri} {ls:List (List Int)} {i:Nat} {l:List Int} (h:ls[i]?=some l):(gatesOf ar ls)[i]?=some (gateRow ar l):=by
 unfold gatesOf;rw [List.getElem?_map,h]
 rfl
theorem Qfg (o i M:Nat)(ar:List Tri) (ls:List (List Int)) (l:List Int) (w:World) (h:Qex w o ar ls) (hl:ls[i]?=some l) (hL:ls.length≤1000000) (hM:(Qam l).toNat=M):Calls prog 40 #[.pointer (some ⟨o,0,none⟩),.int .i64 ((i:Int)+1)] w fun e w'=>e=.returned (.int .i64 (M:Int))∧w=w':=by
 obtain ⟨Q,F,T,G,S,L,m,cq,cf,ct,cg,cs,h⟩:=h;have h0:=h.n3;have hi:i<L:=by rw [←h.part.1];exact (Zs hl).1
 have hLL:L≤1000000:=by rw [←h.part.1];exact hL
 obtain ⟨row,gb,go_,A,n,c,hrow,rfl,hc,hr,_⟩:=h.gates.at_ hi;rw [Qbf hl] at hrow
 cases hrow
 have HN:=Zh (show n=M by rw [←hr.1,Qan,hM])
 clear hM;have i1:(0:Int)≤(i:Int):=by omega
 have i2:(i:Int)<(L:Int):=by omega
 have i3:¬((i:Int)+1<1):=by omega
 have i4:¬((i:Int)+1 > (L:Int)):=by omega
 have i5:(i:Int)+1-1=(i:Int):=by omega
 clear h hl hr hL
 go_enter func40,ntmps40
 go_wp2
 go_ret
 exact ⟨Qbs (by rw [HN.out]),rfl⟩
theorem Qmk (o i k M:Nat)(ar:List Tri) (ls:List (List Int)) (l:List Int) (w:World) (h:Qex w o ar ls) (hl:ls[i]?=some l) (hL:ls.length≤1000000) (hM:(Qam l).toNat=M) (hk:k<M):Calls prog 78 #[.pointer (some ⟨o,0,none⟩),.int .i64 ((i:Int)+1),.int .i64 k] w fun e w'=>e=.returned (.bool true)∧w=w':=by
 have HC:=Zh (Qfg o i M ar ls l w h hl hL hM);clear h hl hL hM;have i1:(0:Int)≤(k:Int):=by omega
 have i2:(k:Int)<(M:Int):=by omega
 go_enter func78,ntmps78
 go_wp2_with fail
 with_reducible refine HC.out.mono ?_
 rintro e w' ⟨rfl,rfl⟩
 go_wp2_with fail
 go_ret
 exact ⟨Qbb (by first|(simp;done)|(simp;omega)),rfl⟩
set_option maxHeartbeats 1000000 in
theorem Qjt (o i k:Nat)(ar:List Tri) (ls:List (List Int)) (l:List Int) (x:Qal) (w:World) (h:Qex w o ar ls) (hl:ls[i]?=some l) (hL:ls.length≤1000000) (hx:(gateRow ar l)[k]?=some x) (ha:ar.length≤1000000) :
 Calls prog 42 #[.pointer (some ⟨o,0,none⟩),.int .i64 ((i:Int)+1),.int .i64 k] w fun e w'=>∃ A1 n1 c1 A2 n2 c2,e=.returned (.agg #[.slice A1 n1 c1,.slice A2 n2 c2])∧Own w' w.heap.size 3 1 A1 n1 c1 (Qad x.1)∧Own w' w.heap.size 3 1 A2 n2 c2 (Qad x.2)∧Below w.heap.size w w':=by
 have hk:k<(Qam l).toNat:=by rw [←Qan ar l];exact (Zs hx).1
 have HH:=Zh (show ∀ V,Below w.heap.size w V→Calls prog 78 #[.pointer (some ⟨o,0,none⟩),.int .i64 ((i:Int)+1),.int .i64 k] V fun e w'=>e=.returned (.bool true)∧V=w' from fun V hV=>Qmk o i k _ ar ls l V (h.below hV) hl hL rfl hk)
 obtain ⟨Q,F,T,G,S,L,m,cq,cf,ct,cg,cs,h⟩:=h;have h0:=h.n3;have hi:i<L:=by rw [←h.part.1];exact (Zs hl).1
 have hLL:L≤1000000:=by rw [←h.part.1];exact hL
 obtain ⟨row,gb,go_,A,n,c,hrow,rfl,hc,hr,_⟩:=h.gates.at_ hi;rw [Qbf hl] at hrow
 cases hrow
 have hn:n=(Qam l).toNat:=by rw [←hr.1,Qan]
 obtain ⟨y,cb,co,A1,n1,c1,A2,n2,c2,hy,rfl,hc1,hr1,hc2,hr2,_⟩:=hr.at_ (c:=k) (by omega);rw [hx] at hy
 cases hy
 have hg:=Qbk hx;have HR1:=Zh hr1;have HR2:=Zh hr2;have hn1:n1≤1000000:=by rw [←hr1.1];omega
 have hn2:n2≤1000000:=by rw [←hr2.1];omega
 have h0a:=fun ob=>Zc (show Below w.heap.size w (w.alloc ob) from Qae) (Zn _) h0
 have hca:=fun ob=>Zc (show Below w.heap.size w (w.alloc ob) from Qae) (Zn _) hc
 have hc1a:=fun ob=>Zc (show Below w.heap.size w (w.alloc ob) from Qae) (Zn _) hc1
 have hc2a:=fun ob=>Zc (show Below w.heap.size w (w.alloc ob) from Qae) (Zn _) hc2
 have i1:(0:Int)≤(i:Int):=by omega
 have i2:(i:Int)<(L:Int):=by omega
 have i5:(i:Int)+1-1=(i:Int):=by omega
 have i6:(0:Int)≤(k:Int):=by omega
 have i7:(k:Int)<(n:Int):=by omega
 clear h hl hr hL hx hr1 hr2 hn hk
 go_enter func42,ntmps42
 go_wp2_with fail
 with_reducible refine (HH.out _ Qae).mono ?_
 rintro e w' ⟨rfl,rfl⟩
 go_wp2_with fail
 (refine Qah ?_;intro w3 hw3)
 have hb3:Below w.heap.size w w3:=by rw [hw3];exact Qae
 have hZ:Blk w3 w.heap.size 105 #[.slice none 0 0,.slice none 0 0]:=by rw [hw3];exact Qau
 have hX:Blk w3 (w.heap.size+1) 105 #[.slice A1 n1 c1,.slice A2 n2 c2]:=by rw [hw3];exact Qau
 clear hw3 h0a hca hc1a hc2a;have HSX:=Zh (show ∀ V,Blk V (w.heap.size+1) 105 #[.slice A1 n1 c1,.slice A2 n2 c2]→V.cell? ⟨w.heap.size+1,0,none⟩=some (.slice A1 n1 c1)∧V.cell? ⟨w.heap.size+1,1,none⟩=some (.slice A2 n2 c2) from fun V hV=>⟨hV.two.1,hV.two.2.1⟩)
 refine wp_region_held_drew (S:=fun V=>Blk V (w.heap.size+1) 105 #[.slice A1 n1 c1,.slice A2 n2 c2]) (by kernel_rfl) hX.drew (fun _=>?_);refine tz 0 25 ?_;refine tz 1 26 ?_;refine tz 3 28 ?_;refine tz 4 29 ?_;refine Zk 2 (fun K hK=>?_);go_simp;with_reducible refine (Qjq A1 n1 c1 x.1 _ (HR1.out.below (show Below w.heap.size w w3.drew from Qae)) hn1).mono ?_
 rintro e w4 ⟨B1,d1,rfl,ho1,hb4⟩;have hb34:Below w3.heap.size w3 w4:=(Zr _ w3).drew.trans hb4;have hX4:=hX.below hb34 hX.lt;have hZ4:=hZ.below hb34 hZ.lt;have hb4':=Zb hb3 hb34;clear hb4
 go_wp2_with fail
 refine hK.out _ _ hX4 (fun _=>?_);clear hK K;refine Zk 5 (fun K hK=>?_);go_simp;with_reducible refine (Qjq A2 n2 c2 x.2 w4 (HR2.out.below hb4') hn2).mono ?_
 rintro e w5 ⟨B2,d2,rfl,ho2,hb5⟩;have hX5:=hX4.below hb5 hX4.lt;have hZ5:=hZ4.below hb5 hZ4.lt;have hb5':=Zb hb4' hb5;have ho1':=ho1.below hb5;have hz3:=hb34.size;have hzX:=hX.lt
 replace ho1':Own w5 w3.heap.size 3 1 B1 n1 d1 (Qad x.1):=ho1'
 clear ho1 hb5
 go_wp2_with fail
 refine hK.out _ _ hX5 (fun _=>?_);clear hK K;refine tz 6 31 ?_;obtain ⟨z0,z1,zf0,zf1⟩:=hZ5.two;refine Zk 7 (fun K hK=>?_);go_simp;refine hK.out _ _ ((hX5.far_ (by omega) _).far_ (by omega) _) (fun _=>?_);clear hK K;refine Zd ?_;have HF1:=Zh (((ho1'.far (Qaa w5 w.heap.size 0 (.slice B1 n1 d1)) (.inr (ho1'.ne (by omega)))).far (Qaa _ w.heap.size 1 (.slice B2 n2 d2)) (.inr (ho1'.ne (by omega)))).mono (show w.heap.size≤w3.heap.size by omega))
 have HF2:=Zh (((ho2.far (Qaa w5 w.heap.size 0 (.slice B1 n1 d1)) (.inr (ho2.ne (by omega)))).far (Qaa _ w.heap.size 1 (.slice B2 n2 d2)) (.inr (ho2.ne (by omega)))).mono (show w.heap.size≤w4.heap.size by omega))
 clear ho1' ho2
 go_wp2_with fail
 refine bodyPost_ret (v:=.agg #[.slice B1 n1 d1,.slice B2 n2 d2]) (by simp [results,results42,go_sem,z0,z1]) rfl ?_;exact ⟨B1,n1,d1,B2,n2,d2,rfl,HF1.out,HF2.out,Qae⟩
theorem oGate_ok (o i k:Nat)(ar:List Tri) (ls:List (List Int)) (l:List Int) (x:Qal) (w:World) (h:Qex w o ar ls) (hl:ls[i]?=some l) (hL:ls.length≤1000000) (hx:(gateRow ar l)[k]?=some x) (ha:ar.length≤1000000) :
 Calls prog 42 #[.pointer (some ⟨o,0,none⟩),.int .i64 ((i:Int)+1),.int .i64 k] w fun e w'=>∃ A1 n1 c1 A2 n2 c2,e=.returned (.agg #[.slice A1 n1 c1,.slice A2 n2 c2])∧RdI w' A1 n1 x.1∧RdI w' A2 n2 x.2∧Below w.heap.size w w':=by
 refine (Qjt o i k ar ls l x w h hl hL hx ha).mono ?_;rintro e w' ⟨A1,n1,c1,A2,n2,c2,rfl,h1,h2,h3⟩;exact ⟨A1,n1,c1,A2,n2,c2,rfl,h1.rds.rdI,h2.rds.rdI,h3⟩
theorem count_lt {l:List Int} (h:l.Pairwise (·<·)) {k:Nat} {v:Int} (hk:l[k]?=some v):l.countP (·<v)=k:=by
 induction l generalizing k with
 | nil=>simp at hk
 | cons x t ih =>
  rw [List.pairwise_cons] at h
  cases k with
  | zero =>
   simp at hk;subst hk;rw [List.countP_eq_zero];intro y hy
   rcases List.mem_cons.1 hy with rfl|hy
   · simp
   · have:=h.1 y hy
     simp;omega
  | succ k =>
   simp at hk;have hx:=h.1 v (Zm hk);rw [List.countP_cons,ih h.2 hk];simp [hx]
theorem Qfm {l:List Int} (h:l.Pairwise (·<·)) {k:Nat} {v:Int} (hk:l[k]?=some v):plI l v=k:=by
 refine Qwh hk (fun j x hj hx e=>?_);subst e;rw [List.pairwise_iff_getElem] at h;have h1:=(Zs hx);have h2:=(Zs hk);have:=h j k h1.1 h2.1 hj;rw [h1.2,h2.2] at this;omega
set_option maxHeartbeats 400000 in
theorem Qnl (A:Option Addr)(n c:Nat)(l:List Int)(v:Int)(w:World)(h:RdI w A n l) (hs:l.Pairwise (·<·)) (hn:n≤1000000) :
 Calls prog 131 #[.slice A n c,.int .i64 v] w fun e w'=>e=.returned (.int .i64 (plI l v))∧Below w.heap.size w w':=by
 have hb:∃ (p:Nat) (t:Bool),Calls prog 157 #[.slice A n c,.int .i64 v] w (fun e w'=>e=.returned (.tuple #[.int .i64 (p:Int),.bool t])∧Below w.heap.size w w')∧plI l v=if t then (p:Int) else -1:=by
  cases n with
  | zero =>
   have hl:l=[]:=List.eq_nil_of_length_eq_zero h.1;subst hl;refine ⟨0,false,?_,by simp [Qcx]⟩;refine Calls.mono (show Calls prog 157 _ _ _ from Any.slices_BinarySearch_int_empty searchL A c v w) ?_
   rintro e w' ⟨rfl,rfl⟩;exact ⟨rfl,Zr _ _⟩
  | succ n =>
   obtain ⟨b,o,x,rfl,hx,hc⟩:=h.at_ (i:=0) (by omega)
   have hcon:=Any.slices_BinarySearch_int searchL b o (n+1) c l v w (by rw [h.1];exact Zn _) (by omega) (fun j hj=>by
    obtain ⟨b',o',y,e,hy,hc'⟩:=h.at_ (i:=j) (by rw [←h.1];exact hj)
    cases e
    rw [List.getD_eq_getElem?_getD,hy];exact hc') (by rw [List.take_of_length_le (by rw [h.1];exact Zn _)];exact hs.imp (fun h=>by omega))
   rw [List.take_of_length_le (by rw [h.1];exact Zn _)] at hcon;refine ⟨l.countP (·<v),l.contains v,?_,?_⟩
   · refine Calls.mono (show Calls prog 157 _ _ _ from hcon) ?_
     rintro e w' ⟨rfl,q,rfl⟩;exact ⟨rfl,Qap (Zr _ _) q⟩
   · by_cases hm:v∈l
     · obtain ⟨k,hk⟩:=List.getElem?_of_mem hm
       rw [Qfm hs hk,count_lt hs hk,if_pos (by simpa using hm)]
     · rw [Qcx hm,if_neg (by simpa using hm)]
 obtain ⟨p,t,hcall,hp⟩:=hb;have HC:=Zh hcall;have HP:=Zh hp;clear hcall hp h hs
 go_enter func131,ntmps131
 go_wp2_with fail
 with_reducible refine HC.out.mono ?_
 rintro e w' ⟨rfl,hb⟩
 cases t
 · go_wp2_with fail
   go_ret
   exact ⟨Qbs (by rw [HP.out];rfl),hb⟩
 · go_wp2_with fail
   go_ret
   exact ⟨Qbs (by rw [HP.out];rfl),hb⟩
def srt (zs:List Int):List Int:=zs.mergeSort fun x y=>decide (x≤y)
theorem Qus (zs:List Int):(srt zs).length=zs.length:=by unfold srt;simp
theorem srt_mem {zs:List Int}{x:Int}:x∈srt zs↔x∈zs:=by unfold srt;exact List.mem_mergeSort
theorem srt_le (zs:List Int):(srt zs).Pairwise (·≤·):=by
 have:=List.pairwise_mergeSort (le:=fun x y:Int=>decide (x≤y)) (fun a b c h1 h2=>by simp at *;omega) (fun a b=>by simp;omega) zs;exact this.imp (fun h=>by simpa using h)
theorem Own.sorted {w:World}{B g n c:Nat}{zs:List Int} (h:Own w B 3 1 (some ⟨g,0,none⟩) n c (Qad zs)):zs.length=n∧g<w.heap.size∧B≤g∧Go.Sort.Holds (Value.int .i64) w g 0 zs.toArray∧n≤c∧c≤9223372036854775807 ∧
 ∀ (ts:List Int) (q:Nat) (os:Array Obj),ts.length=n→Own (Go.Sort.grow (Go.Sort.putRow (Value.int .i64) (Go.Sort.ahead w q) g 0 ts.toArray) os) B 3 1 (some ⟨g,0,none⟩) n c (Qad ts):=by
 have hl:zs.length=n:=by have:=h.1;simpa [Qad] using this
 rcases h.2 with ⟨h',_⟩|⟨g',cap,cur,h1,h2,h3,h4,h5,h6,h7⟩
 · cases h'
 · cases h1
   have h7':cur.toList.take zs.length=zs.map (Value.int .i64):=by rw [hl];simpa [Qad] using h7
   refine ⟨hl,(Array.getElem?_eq_some_iff.1 h3).1,h2,holds_of_blockI h3 h7',h4,(by unfold maxLen at h5;exact h5),fun ts q os ht=>?_⟩;have:=ownsRow_sortedI (os:=os) (n:=q) (ss:=zs) (ts:=ts) (by rw [ht,hl]) h2 h3 (by rw [hl];exact h4) h5 h6;rw [hl] at this;exact this
theorem sort_own (g n c B:Nat)(zs:List Int)(w:World) (h:Own w B 3 1 (some ⟨g,0,none⟩) n c (Qad zs)) (hn:n≤1000000000) :
 Calls prog 169 #[.slice (some ⟨g,0,none⟩) n c] w fun e w'=>e=.returned (.tuple #[])∧Own w' B 3 1 (some ⟨g,0,none⟩) n c (Qad (srt zs))∧w.grownBy w' (some g):=by
 obtain ⟨hl,hg,hB,hH,h1,h2,h3⟩:=h.sorted;have hcon:=Any.slices_Sort_int sortIL g 0 c zs w hH hg (by omega);rw [hl] at hcon;refine Calls.mono (show Calls prog 169 _ _ _ from hcon) ?_
 rintro e w' ⟨rfl,q,os,rfl⟩;exact ⟨rfl,h3 (srt zs) q os (by rw [Qus,hl]),grownBy_sortedI _⟩
theorem Qot (g n c B:Nat)(zs:List Int)(w:World) (h:Own w B 3 1 (some ⟨g,0,none⟩) n c (Qad zs)) :
 Calls prog 170 #[.slice (some ⟨g,0,none⟩) n c] w fun e w'=>e=.returned (.slice (some ⟨g,0,none⟩) (Lib.compact zs).length c)∧RdI w' (some ⟨g,0,none⟩) (Lib.compact zs).length (Lib.compact zs)∧w.grownBy w' (some g):=by
 obtain ⟨hl,hg,hB,hH,h1,h2,h3⟩:=h.sorted;have hcon:=Any.slices_Compact_int compactL g 0 c zs w hH (by omega) (by omega);rw [hl] at hcon;have hcl:=Lib.compact_length_le zs;refine Calls.mono (show Calls prog 170 _ _ _ from hcon) ?_
 rintro e w' ⟨rfl,q,rfl⟩;have ho:=h3 (Lib.compact zs ++List.replicate (n-(Lib.compact zs).length) 0) q #[] (by simp;omega);rw [Go.Sort.grow_empty] at ho;have hgr:=grownBy_sortedI (w:=w) (g:=g) (n:=q) (os:=#[]) (Lib.compact zs ++List.replicate (n-(Lib.compact zs).length) 0).toArray;rw [Go.Sort.grow_empty] at hgr;refine ⟨rfl,?_,hgr⟩;have:=ho.rds.rdI.take (m:=(Lib.compact zs).length) (by omega)
 rwa [List.take_append_of_le_length (Zn _),List.take_length] at this
theorem Qpg {zs:List Int}{x:Int}:x∈Lib.compact zs↔x∈zs:=by
 unfold Lib.compact Lib.compactUpTo;simp only [List.mem_map,List.mem_filter,List.mem_range]
 constructor
 · rintro ⟨j,⟨hj,_⟩,rfl⟩
   rw [getElem!_pos _ _ (by simpa using hj)];simp
 · intro hx
   obtain ⟨k,hk⟩:=List.getElem?_of_mem hx;have hkl:=(Zs hk).1
   have hex:∃ j,j<zs.length∧zs.toArray[j]! = x∧Lib.keeps zs.toArray j=true:=by
    have hkx:zs.toArray[k]! = x:=by rw [getElem!_pos _ _ (by simpa using hkl)];simpa using (Zs hk).2
    clear hk
    induction k with
    | zero=>exact ⟨0,hkl,hkx,by simp [Lib.keeps]⟩
    | succ k ih =>
     by_cases e:zs.toArray[k+1]! = zs.toArray[k]!
     · exact ih (by omega) (by rw [←e];exact hkx)
     · exact ⟨k+1,hkl,hkx,Lib.keeps_pos e⟩
   obtain ⟨j,h1,h2,h3⟩:=hex;exact ⟨j,⟨h1,h3⟩,h2⟩
theorem Qsi {zs:List Int} (h:zs.Pairwise (·≤·)):(Lib.compact zs).Pairwise (·<·):=by
 unfold Lib.compact Lib.compactUpTo;rw [List.pairwise_map]
 have hle:∀ i j:Nat,i≤j→j<zs.length→zs.toArray[i]!≤zs.toArray[j]!:=fun i j hij hj=>by
  rw [getElem!_pos _ _ (by simp;omega),getElem!_pos _ _ (by simpa using hj)];simp only [List.getElem_toArray]
  rcases Nat.lt_or_ge i j with h1|h1
  · exact List.pairwise_iff_getElem.1 h i j (by omega) hj h1
  · obtain rfl:i=j:=by omega
    exact Int.le_refl _
 have hr:((List.range zs.length).filter (Lib.keeps zs.toArray)).Pairwise (fun i j=>i<j∧j<zs.length∧Lib.keeps zs.toArray j=true):=by
  rw [List.pairwise_filter];refine List.Pairwise.imp_of_mem ?_ (List.pairwise_lt_range (n:=zs.length));intro i j hi hj hij _ hk;exact ⟨hij,List.mem_range.1 hj,hk⟩
 refine hr.imp ?_;rintro i j ⟨hij,hj,hk⟩;have h1:=hle i (j-1) (by omega) (by omega);have h2:=hle (j-1) j (by omega) hj
 have h3:zs.toArray[j]!≠zs.toArray[j-1]!:=fun e=>by
  rw [Lib.keeps_neg (by omega) e] at hk
  cases hk
 omega
def Qdy (row below:List Int)(cell:Int)(k:Nat):List Int:=((List.range k).filter (fun v:Nat=>row.getD v 0 == cell)).map (fun v=>below.getD v 0)
theorem Qmv {row below:List Int}{cell x y:Int}{k:Nat} (hx:row[k]?=some x) (hy:below[k]?=some y):Qdy row below cell (k+1)=Qdy row below cell k ++(if x=cell then [y] else []):=by
 unfold Qdy;have ex:row.getD k 0=x:=by rw [List.getD_eq_getElem?_getD,hx];rfl
 have ey:below.getD k 0=y:=by rw [List.getD_eq_getElem?_getD,hy];rfl
 rw [List.range_succ,List.filter_append,List.map_append]
 congr 1
 by_cases e:x=cell
 · rw [if_pos e];simp only [List.filter_cons,List.filter_nil,ex,e,beq_self_eq_true,if_true,List.map_cons,List.map_nil,ey]
 · rw [if_neg e];simp only [List.filter_cons,List.filter_nil,ex,beq_eq_false_iff_ne.2 e,Bool.false_eq_true,if_false,List.map_nil]
theorem Qph (row below:List Int)(cell:Int)(k:Nat):(Qdy row below cell k).length≤k:=by
 unfold Qdy;rw [List.length_map];exact Nat.le_trans (List.length_filter_le _ _) (by simp)
theorem Qjf {row below:List Int}{cell x:Int}{n:Nat}(h1:row.length=n)(h2:below.length=n):x∈Qdy row below cell n↔∃ v:Nat,row[v]?=some cell∧below[v]?=some x:=by
 unfold Qdy;simp only [List.mem_map,List.mem_filter,List.mem_range,beq_iff_eq,List.getD_eq_getElem?_getD]
 constructor
 · rintro ⟨v,⟨hv,e1⟩,e2⟩
   have a1:row[v]?=some row[v]:=Zg (by omega);have a2:below[v]?=some below[v]:=Zg (by omega);rw [a1] at e1;rw [a2] at e2;refine ⟨v,?_,?_⟩
   · rw [a1];exact congrArg some e1
   · rw [a2];exact congrArg some e2
 · rintro ⟨v,e1,e2⟩
   refine ⟨v,⟨by have:=(Zs e1).1;omega,by rw [e1];rfl⟩,by rw [e2];rfl⟩
def Qcq (row below:List Int)(cell:Int)(n:Nat):List Int:=Lib.compact (srt (Qdy row below cell n))
theorem Qva (row below:List Int)(cell:Int)(n:Nat):(Qcq row below cell n).Pairwise (·<·):=Qsi (srt_le _)
theorem Qhu {row below:List Int}{cell x:Int}{n:Nat}(h1:row.length=n)(h2:below.length=n):x∈Qcq row below cell n↔∃ v:Nat,row[v]?=some cell∧below[v]?=some x:=by
 unfold Qcq;rw [Qpg,srt_mem,Qjf h1 h2]
theorem Qro (row below:List Int)(cell:Int)(n:Nat):(Qcq row below cell n).length≤n:=by
 unfold Qcq;refine Nat.le_trans (Lib.compact_length_le _) ?_;rw [Qus];exact Qph _ _ _ _
set_option maxHeartbeats 2000000 in
theorem kids_own (Q:Option Addr)(L cq j n:Nat)(cell:Int) (ls:List (List Int)) (row below:List Int) (w:World) (h:RdT w Q L ls) (hr:ls[j+1]?=some row) (hb:ls[j]?=some below) (hL:L≤1000000) (h1:row.length=n) (h2:below.length=n) (hn:n≤1000000) (hne:cell∈row) :
 Calls prog 163 #[.agg #[.slice Q L cq],.int .i64 ((j:Int)+1+1),.int .i64 cell] w fun e w'=>∃ A c,e=.returned (.slice A (Qcq row below cell n).length c)∧RdI w' A (Qcq row below cell n).length (Qcq row below cell n)∧(∀ b,Qab A=some b→w.heap.size≤b)∧Below w.heap.size w w':=by
 have HN1:=Zh (show ∀ V,Below w.heap.size w V→Calls prog 153 #[.agg #[.slice Q L cq],.int .i64 ((j:Int)+1)] V fun e w'=>∃ A n c,e=.returned (.slice A n c)∧RdI V A n below∧n≤c∧c≤9223372036854775807∧Below V.heap.size V w' from fun V hV=>Qht Q L cq j ls below V (h.below hV) hb hL)
 have HN2:=Zh (show ∀ V,Below w.heap.size w V→Calls prog 153 #[.agg #[.slice Q L cq],.int .i64 ((j:Int)+1+1)] V fun e w'=>∃ A n c,e=.returned (.slice A n c)∧RdI V A n row∧n≤c∧c≤9223372036854775807∧Below V.heap.size V w' from fun V hV=>by
  have:=Qht Q L cq (j+1) ls row V (h.below hV) hr hL
  simpa using this)
 have HL1:=Zh h1;have HL2:=Zh h2;have HNE:=Zh hne;have hjL:j+1<L:=by rw [←h.1];exact (Zs hr).1
 clear h hr hb h1 h2 hne;have i1:¬((j:Int)+1+1<2):=by omega
 have i2:(j:Int)+1+1-1=(j:Int)+1:=by omega
 go_enter func163,ntmps163
 go_wp2_with fail
 (refine Qac ?_;intro w1 hw1)
 have hb1:Below w.heap.size w w1:=by rw [hw1];exact Qae
 have hQ:Blk w1 w.heap.size 89 #[.slice Q L cq]:=by rw [hw1];exact Qau
 clear hw1;with_reducible refine (HN1.out w1 hb1).mono ?_
 rintro e w2 ⟨Ab,n1,cb,rfl,hrb,_,_,hb2⟩;obtain rfl:n=n1:=by rw [←hrb.1];exact HL2.out.symm
 have hbw2:=Zb hb1 hb2;have HRB:=Zh (hrb.below hb2);have y0:=(hQ.below hb2 hQ.lt).cell 0;simp only [List.getElem?_toArray,List.getElem?_cons_zero] at y0;clear hrb hb2 hQ
 go_wp2_with fail
 with_reducible refine (HN2.out w2 hbw2).mono ?_
 rintro e w3 ⟨Ar,n2,cr,rfl,hrr,_,_,hb3⟩;obtain rfl:n=n2:=by rw [←hrr.1];exact HL1.out.symm
 have hbw3:=Zb hbw2 hb3;have HRR:=Zh (hrr.below hb3);have HRB3:=Zh (HRB.out.below hb3);have hz0:=hbw3.size;clear hrr hb3 y0 HRB
 go_wp2_with fail
 go_loopw [8,21] (fun x q W=>w3.heap.size≤W.heap.size∧Below w3.heap.size w3 W∧∃ (k:Nat) (X:Option Addr) (m cx:Nat),k≤n∧q=.int .i64 k∧x=.slice X m cx∧m≤k∧Own W w3.heap.size 3 1 X m cx (Qad (Qdy row below cell k))) (fun _ q _=>n-(intOf q).toNat)
 case atStart=>exact ⟨Zn _,Zr _ _,0,none,0,0,Nat.zero_le _,rfl,rfl,Zn _,Own.nil _ _ _ _⟩
 case round =>
  obtain ⟨hsz,hbl,k,X,m,cx,hk,rfl,rfl,hmk,hown⟩:=hrel
  by_cases hlt:k<n
  · obtain ⟨rb,ro,x,rfl,hx,hcx⟩:=HRR.out.at_ hlt
    obtain ⟨bb,bo,y,rfl,hy,hcy⟩:=HRB3.out.at_ hlt;have hcx2:=Zc hbl (Zn _) hcx;have hcy2:=Zc hbl (Zn _) hcy;have HNX:=Zh (Qmv (cell:=cell) hx hy);have k1:(0:Int)≤(k:Int):=by omega
    have k2:(k:Int)<(n:Int):=by omega
    clear hx hy hcx hcy
    by_cases hxc:x=cell
    · have e1:(x == cell)=true:=by simpa using hxc
      have HXC:=Zh hxc;clear hxc;have hr4:Below wr.heap.size wr (wr.alloc (.cells #[.int .i64 y] 3)):=Qae;have hownA:=hown.below hr4;have hrA:Rds (wr.alloc (.cells #[.int .i64 y] 3)) 1 (some ⟨wr.heap.size,0,none⟩) 1 (Qad [y]):=(Blk.new wr 3 (Qcf [y])).rds rfl;have hblA:=Zb hbl hr4
      go_wp2_with (at_builtin;with_reducible refine Qat rfl (.tmp 35) (.tmp 40) 93 rfl 3 _ 1 8 Qay underlying93 rfl (by omega) rfl rfl hownA hrA (Qak _) (by omega) (by omega) (by simp;omega) ?_)
      intro A' c' w' hown' hg _;have hbl5:Below w3.heap.size w3 w':=Bel.grownOwn hblA hg hownA (by simp;omega);have hsz5:=hbl5.size;have HO:=Zh hown';clear hown' hg hownA hrA hblA hr4 hown hbl
      go_wp2
      go_roundw
      case rel=>exact ⟨hsz5,hbl5,k+1,A',m+1,c',by omega,by go_num,rfl,by omega,by rw [HNX.out,if_pos HXC.out,Qbz];exact HO.out⟩
      case measure=>simp [intOf];omega
    · have e1:(x == cell)=false:=by simpa using hxc
      have HXC:=Zh hxc;clear hxc
      go_wp2_with fail
      go_roundw
      case rel=>exact ⟨hsz,hbl,k+1,X,m,cx,by omega,by go_num,rfl,by omega,by rw [HNX.out,if_neg HXC.out];simpa using hown⟩
      case measure=>simp [intOf];omega
  · obtain rfl:n=k:=by omega
    have hm:(Qdy row below cell n).length=m:=by have:=hown.1;simpa [Qad] using this
    have hm0:0<m:=by
     obtain ⟨v,hv⟩:=List.getElem?_of_mem HNE.out;have hvn:=(Zs hv).1;rw [HL1.out] at hvn;obtain ⟨z,hz⟩:∃ z,below[v]?=some z:=⟨_,Zg (by rw [HL2.out];exact hvn)⟩;have hmem:=(Qjf HL1.out HL2.out).2 ⟨v,hv,hz⟩;rw [←hm];exact List.length_pos_of_mem hmem
    obtain ⟨gk,cur,rfl,hgk,_⟩:=hown.block hm0;have HS:=Zh (sort_own gk m cx w3.heap.size _ wr hown (by omega));clear hown hm hm0 HNE
    go_wp2_with fail
    with_reducible refine HS.out.mono ?_
    rintro e w5 ⟨rfl,hown5,hg5⟩;have hbl5:Below w3.heap.size w3 w5:=hbl.grown hg5 hsz (fun k hk=>by cases hk;exact hgk)
    have hz5:=hg5.size;have HC:=Zh (Qot gk m cx w3.heap.size _ w5 hown5);clear hown5 hg5 HS
    go_wp2_with fail
    with_reducible refine HC.out.mono ?_
    rintro e w6 ⟨rfl,hr6,hg6⟩;have hbl6:Below w3.heap.size w3 w6:=hbl5.grown hg6 (by omega) (fun k hk=>by cases hk;exact hgk)
    have HR6:=Zh hr6;clear hr6 hg6 HC
    go_wp2_with fail
    go_ret
    exact ⟨_,_,rfl,HR6.out,fun b hb=>by injection hb with hb;simp only at hb;omega,Zb hbw3 hbl6⟩
end Go.Proofs.YthoagdpakddbdaaGreatDoor
