/- Qbl of the proof: Gr, Ga, GaW, Cl, ClI, Hp, Hw, Ks, Hx. -/
import Derived.Test.YtkaaakbejnlbgaaGreatDoorD4
import Derived.Lib.SliceRun
set_option maxHeartbeats 2000000
namespace Go.Proofs.YtkaaakbejnlbgaaGreatDoor
open Go.RowKit Go.Proofs.Tryz
def TabAt2 (w v:World)(b o:Nat)(t:Qgc):Prop:=w.cell? ⟨b,o,none⟩=some (.int .i64 t.ins)∧w.cell? ⟨b,o+1,none⟩=some (.int .i64 t.outs)∧∃ (A:Oz) (n c:Nat),w.cell? ⟨b,o+2,none⟩=some (.slice A n c)∧RdI v A n t.costs∧n≤c∧c≤9223372036854775807
def RdY2 (w v:World)(A:Oz)(n:Nat)(l:List Qgc):Prop:=l.length=n∧∀ i t,l[i]?=some t→∃ b o,A=some ⟨b,o,none⟩∧TabAt2 w v b (o+i*3) t
theorem RdY2.rdY {w v:World}{A:Oz}{n:Nat}{l:List Qgc}(h:RdY2 w v A n l)(hl:Le v w):RdY w A n l :=
 ⟨h.1,fun i t ht=>by
  obtain ⟨b,o,e,h1,h2,A',n',c',h3,h4,h5⟩:=h.2 i t ht;exact ⟨b,o,e,h1,h2,A',n',c',h3,h4.le hl,h5⟩⟩
theorem RdY2.le {w w' v v':World}{A:Oz}{n:Nat}{l:List Qgc}(h:RdY2 w v A n l)(hw:∀ b o x,Qaa A=some b→w.cell? ⟨b,o,none⟩=some x→w'.cell? ⟨b,o,none⟩=some x)(hl:Le v v'):RdY2 w' v' A n l :=
 ⟨h.1,fun i t ht=>by
  obtain ⟨b,o,e,h1,h2,A',n',c',h3,h4,h5⟩:=h.2 i t ht;have hb:Qaa A=some b:=by rw [e];rfl
  exact ⟨b,o,e,hw _ _ _ hb h1,hw _ _ _ hb h2,A',n',c',hw _ _ _ hb h3,h4.le hl,h5⟩⟩
def Warm (W:World)(A:Oz):Prop:=∀ b,Qaa A=some b→b<W.heap.size∧∀ o,W.frozen? ⟨b,o,none⟩=false
theorem Warm.keep {W W':World}{A:Oz}(h:Warm W A)(hz:W.heap.size≤W'.heap.size) (hk:∀ b,Qaa A=some b→W'.heap[b]?=W.heap[b]?):Warm W' A:=fun b hb =>
 ⟨Yu (h b hb).1 hz,fun o=>by rw [World.frozen?_of_block (hk b hb)];exact (h b hb).2 o⟩
theorem Own.warm {w:World}{B s n c:Nat}{e:TypeId}{A:Oz}{xs:List Value}(h:Own w B e s A n c xs):Warm w A:=fun b hb=>by
 refine ⟨(h.lt b hb).2,fun o=>?_⟩;rcases h.2 with ⟨h',_⟩|⟨g,cap,cur,h1,h2,h3,_⟩
 {cases h';cases hb};{cases h1;cases hb;exact Blk.frozen (t:=e) (cs:=cur) h3 o}
structure Qwk (W:World) (G:Nat→Prop) (A B C:Oz) (n m k:Nat) (N:Qak):Prop where
 vs:Rd3 (msk W G) A n N.vs
 ar:Rd3 W B m N.ar
 ts:RdY2 W (msk W G) C k N.ts
 wa:Warm W B
 wt:Warm W C
 ga:∀ b,Qaa B=some b→¬G b
 gt:∀ b,Qaa C=some b→¬G b
 ac:∀ b,Qaa B=some b→Qaa C≠some b
theorem Qdz {W W':World}{b o:Nat}{x:Value} (hk:W'.heap[b]?=W.heap[b]?) (h:W.cell? ⟨b,o,none⟩=some x):W'.cell? ⟨b,o,none⟩=some x:=by rw [World.cell?_of_block (a:=⟨b,o,none⟩) hk];exact h
theorem Rd3.keep {W W':World}{A:Oz}{n:Nat}{l:List Tri}(h:Rd3 W A n l) (hk:∀ b,Qaa A=some b→W'.heap[b]?=W.heap[b]?):Rd3 W' A n l :=
 ⟨h.1,fun i x hx=>by
  obtain ⟨b,o,e,h1,h2,h3⟩:=h.2 i x hx;have hb:=hk b (by rw [e];rfl);exact ⟨b,o,e,Qdz hb h1,Qdz hb h2,Qdz hb h3⟩⟩
section
variable {W W':World} {G:Nat→Prop} {A B C:Oz} {n m k:Nat} {N:Qak}
theorem Qwk.rd (h:Qwk W G A B C n m k N):Qcp W A B C n m k N:=⟨h.vs.le (Qan W G),h.ar,h.ts.rdY (Qan W G)⟩
theorem Qwk.keep (h:Qwk W G A B C n m k N)(hz:W.heap.size≤W'.heap.size)(hG:Qaz G W W') (hB:∀ b,Qaa B=some b→W'.heap[b]?=W.heap[b]?) (hC:∀ b,Qaa C=some b→W'.heap[b]?=W.heap[b]?):Qwk W' G A B C n m k N where
 vs:=h.vs.le hG.msk
 ar:=h.ar.keep hB
 ts:=h.ts.le (fun b _ _ hb hc=>Qdz (hC b hb) hc) hG.msk
 wa:=h.wa.keep hz hB
 wt:=h.wt.keep hz hC
 ga:=h.ga
 gt:=h.gt
 ac:=h.ac
theorem Qwk.below (h:Qwk W G A B C n m k N)(hb:Bw W W'):Qwk W' G A B C n m k N :=
 h.keep hb.size (Qaz.below hb) (fun b e=>hb.block b (h.wa b e).1) (fun b e=>hb.block b (h.wt b e).1)
theorem Qwk.mono {G':Nat→Prop}(h:Qwk W G A B C n m k N)(hs:∀ b,G b→G' b)(ha:∀ b,Qaa B=some b→¬G' b)(ht:∀ b,Qaa C=some b→¬G' b):Qwk W G' A B C n m k N where
 vs:=h.vs.le (Qbj hs)
 ar:=h.ar
 ts:=h.ts.le (fun _ _ _ _ hc=>hc) (Qbj hs)
 wa:=h.wa
 wt:=h.wt
 ga:=ha
 gt:=ht
 ac:=h.ac
end
structure GrR (W:World) (F G:Nat→Prop) (g:Nat) (A B C I O P:Oz) (n m k c d e ci co cp:Nat) (N:Qak):Prop where
 net:Qwk W G A B C n m k N
 blk:Blk W g 153 #[.slice A n c,.slice B m d,.slice C k e,.slice I n ci,.slice O n co,.slice P m cp]
 gg:G g
 ins:RdT (msk W G) I n (Qnv (·.2.1) N.ar n)
 outs:RdT (msk W G) O n (Qnv (·.1) N.ar n)
 plc:RdP (msk W G) P m (plcs N.ar)
 sub:∀ b,(G b∨Qaa B=some b∨Qaa C=some b)→F b
 lt:∀ b,F b→b<W.heap.size
 ok:Qar N
 c0:n≤c∧c≤9223372036854775807
 c1:m≤d∧d≤9223372036854775807
 c2:k≤e∧e≤9223372036854775807
def GrO (W:World)(F:Nat→Prop)(g:Nat)(N:Qak):Prop:=∃ (G:Nat→Prop) (A B C I O P:Oz) (n m k c d e ci co cp:Nat),GrR W F G g A B C I O P n m k c d e ci co cp N
structure GrV (W:World) (g:Nat) (A B C I O P:Oz) (n m k c d e ci co cp:Nat) (N:Qak):Prop where
 net:Qcp W A B C n m k N
 n0:W.cell? ⟨g,0,none⟩=some (.slice A n c)
 n1:W.cell? ⟨g,1,none⟩=some (.slice B m d)
 n2:W.cell? ⟨g,2,none⟩=some (.slice C k e)
 n3:W.cell? ⟨g,3,none⟩=some (.slice I n ci)
 n4:W.cell? ⟨g,4,none⟩=some (.slice O n co)
 n5:W.cell? ⟨g,5,none⟩=some (.slice P m cp)
 ins:RdT W I n (Qnv (·.2.1) N.ar n)
 outs:RdT W O n (Qnv (·.1) N.ar n)
 plc:RdP W P m (plcs N.ar)
 ok:Qar N
 c0:n≤c∧c≤9223372036854775807
 c1:m≤d∧d≤9223372036854775807
 c2:k≤e∧e≤9223372036854775807
def Qfg (W:World)(g:Nat)(N:Qak):Prop:=∃ (A B C I O P:Oz) (n m k c d e ci co cp:Nat),GrV W g A B C I O P n m k c d e ci co cp N
theorem Qfg.le {W W':World}{g:Nat}{N:Qak}(h:Qfg W g N)(hl:Le W W'):Qfg W' g N:=by obtain ⟨A,B,C,I,O,P,n,m,k,c,d,e,ci,co,cp,h⟩:=h;exact ⟨A,B,C,I,O,P,n,m,k,c,d,e,ci,co,cp,h.net.le hl,hl _ _ h.n0,hl _ _ h.n1,hl _ _ h.n2,hl _ _ h.n3,hl _ _ h.n4,hl _ _ h.n5,h.ins.le hl,h.outs.le hl,h.plc.le hl,h.ok,h.c0,h.c1,h.c2⟩
theorem Qfg.below {W W':World}{g:Nat}{N:Qak}(h:Qfg W g N)(hb:Bw W W'):Qfg W' g N:=h.le (Le.below hb)
theorem Blk.six {w:World}{g:Nat}{t:TypeId}{a b c d e f:Value} (h:Blk w g t #[a,b,c,d,e,f]) :
 w.cell? ⟨g,0,none⟩=some a∧w.cell? ⟨g,1,none⟩=some b∧w.cell? ⟨g,2,none⟩=some c∧w.cell? ⟨g,3,none⟩=some d∧w.cell? ⟨g,4,none⟩=some e∧w.cell? ⟨g,5,none⟩=some f :=
 ⟨Zq h,Zq h,Zq h,Zq h,Zq h,Zq h⟩
theorem GrO.rd {W:World}{F:Nat→Prop}{g:Nat}{N:Qak}(h:GrO W F g N):Qfg W g N:=by obtain ⟨G,A,B,C,I,O,P,n,m,k,c,d,e,ci,co,cp,h⟩:=h;obtain ⟨h0,h1,h2,h3,h4,h5⟩:=h.blk.six;exact ⟨A,B,C,I,O,P,n,m,k,c,d,e,ci,co,cp,h.net.rd,h0,h1,h2,h3,h4,h5,h.ins.le (Qan W G),h.outs.le (Qan W G),h.plc.le (Qan W G),h.ok,h.c0,h.c1,h.c2⟩
theorem GrO.keep {W W':World}{F:Nat→Prop}{g:Nat}{N:Qak}(h:GrO W F g N)(hz:W.heap.size≤W'.heap.size)(hF:Qaz F W W'):GrO W' F g N:=by obtain ⟨G,A,B,C,I,O,P,n,m,k,c,d,e,ci,co,cp,h⟩:=h;have hG:Qaz G W W':=hF.mono (fun b hb=>h.sub b (.inl hb));refine ⟨G,A,B,C,I,O,P,n,m,k,c,d,e,ci,co,cp,?_,(hF g (h.sub g (.inl h.gg)) h.blk.lt).trans h.blk,h.gg,h.ins.le hG.msk,h.outs.le hG.msk,h.plc.le hG.msk,h.sub,fun b hb=>Yu (h.lt b hb) hz,h.ok,h.c0,h.c1,h.c2⟩;exact h.net.keep hz hG (fun b hb=>hF b (h.sub b (.inr (.inl hb))) (h.net.wa b hb).1) (fun b hb=>hF b (h.sub b (.inr (.inr hb))) (h.net.wt b hb).1)
theorem GrO.below {W W':World}{F:Nat→Prop}{g:Nat}{N:Qak}(h:GrO W F g N)(hb:Bw W W'):GrO W' F g N:=h.keep hb.size (Qaz.below hb)
theorem GrO.lt {W:World}{F:Nat→Prop}{g b:Nat}{N:Qak}(h:GrO W F g N)(hb:F b):b<W.heap.size:=by obtain ⟨G,A,B,C,I,O,P,n,m,k,c,d,e,ci,co,cp,h⟩:=h;exact h.lt b hb
theorem GrO.ok {W:World}{F:Nat→Prop}{g:Nat}{N:Qak}(h:GrO W F g N):Qar N:=by obtain ⟨G,A,B,C,I,O,P,n,m,k,c,d,e,ci,co,cp,h⟩:=h;exact h.ok
attribute [local go_sem ↓] Go.wp_at_zero Go.wp_at_succ
theorem Qar.arLe {N:Qak}(h:Qar N){m:Nat}(e:N.ar.length=m):m≤16384:=by rw [←e];exact h.la
theorem Qqh (g:Nat)(N:Qak)(w:World)(h:Qfg w g N):Calls prog 118 #[.pointer (some ⟨g,0,none⟩)] w fun e w'=>e=.returned (.int .i64 (N.vs.length:Int))∧w=w':=by
 obtain ⟨A,B,C,I,O,P,n,m,k,c,d,e,ci,co,cp,h⟩:=h;have h0:=h.n0;have HL:=Zh h.net.1.1;clear h;go_enter func118,ntmps118
 go_wp2;go_ret;exact ⟨Qav (by rw [HL.o]),rfl⟩
theorem Qdj (g:Nat)(N:Qak)(w:World)(h:Qfg w g N):Calls prog 39 #[.pointer (some ⟨g,0,none⟩)] w fun e w'=>e=.returned (.int .i64 (N.ar.length:Int))∧w=w':=by
 obtain ⟨A,B,C,I,O,P,n,m,k,c,d,e,ci,co,cp,h⟩:=h;have h1:=h.n1;have HL:=Zh h.net.2.1.1;clear h;go_enter func39,ntmps39
 go_wp2;go_ret;exact ⟨Qav (by rw [HL.o]),rfl⟩
theorem Qnq (g:Nat)(N:Qak)(a:Int)(w:World)(h:Qfg w g N)(h0:0≤a)(h1:a<N.ar.length):Calls prog 180 #[.pointer (some ⟨g,0,none⟩),.int .i64 a] w fun e w'=>e=.returned (.bool true)∧w=w':=by obtain ⟨A,B,C,I,O,P,n,m,k,c,d,e,ci,co,cp,h⟩:=h;have hn1:=h.n1;have hl:=h.net.2.1.1;rw [hl] at h1;clear hl h;exact Kcj
theorem gArc_no (g:Nat)(N:Qak)(a:Int)(w:World)(h:Qfg w g N) (h1:¬(0≤a∧a<N.ar.length)):Calls prog 180 #[.pointer (some ⟨g,0,none⟩),.int .i64 a] w fun e w'=>e=.returned (.bool false)∧w=w':=by obtain ⟨A,B,C,I,O,P,n,m,k,c,d,e,ci,co,cp,h⟩:=h;have hn1:=h.n1;have hl:=h.net.2.1.1;rw [hl] at h1;clear hl h;by_cases h0:0≤a;{(have h2:¬a<m:=Oo);clear h1;exact Kcj};{clear h1;exact Kcj}
theorem Qmp (g a:Nat)(N:Qak)(x:Tri)(w:World)(h:Qfg w g N) (hx:N.ar[a]?=some x):Calls prog 121 #[.pointer (some ⟨g,0,none⟩),.int .i64 a] w fun e w'=>e=.returned (.int .i64 x.1)∧w=w':=by
 have HA:=Zh (show ∀ V,V=w→Calls prog 180 #[.pointer (some ⟨g,0,none⟩),.int .i64 a] V fun e w'=>e=.returned (.bool true)∧V=w' from fun V e=>e▸Qnq g N a w h Oo (by have:=(Zs hx).1;omega));obtain ⟨A,B,C,I,O,P,n,m,k,c,d,e,ci,co,cp,h⟩:=h;have hn1:=h.n1;have ha:a<m:=by have:=(Zs hx).1;rw [h.net.2.1.1] at this;exact this
 have hm:=h.ok.arLe h.net.2.1.1;obtain ⟨b,o,x',y',z',rfl,hx',cx,cy,cz⟩:=h.net.2.1.at_ ha;rw [hx] at hx';cases hx';have i1:0≤(a:Int):=Oo
 have i2:(a:Int)<m:=Oo
 clear hx h;go_enter func121,ntmps121
 exact Kcb
theorem Qjx (g a:Nat)(N:Qak)(x:Tri)(w:World)(h:Qfg w g N) (hx:N.ar[a]?=some x):Calls prog 122 #[.pointer (some ⟨g,0,none⟩),.int .i64 a] w fun e w'=>e=.returned (.int .i64 x.2.1)∧w=w':=by
 have HA:=Zh (show ∀ V,V=w→Calls prog 180 #[.pointer (some ⟨g,0,none⟩),.int .i64 a] V fun e w'=>e=.returned (.bool true)∧V=w' from fun V e=>e▸Qnq g N a w h Oo (by have:=(Zs hx).1;omega));obtain ⟨A,B,C,I,O,P,n,m,k,c,d,e,ci,co,cp,h⟩:=h;have hn1:=h.n1;have ha:a<m:=by have:=(Zs hx).1;rw [h.net.2.1.1] at this;exact this
 have hm:=h.ok.arLe h.net.2.1.1;obtain ⟨b,o,x',y',z',rfl,hx',cx,cy,cz⟩:=h.net.2.1.at_ ha;rw [hx] at hx';cases hx';have i1:0≤(a:Int):=Oo
 have i2:(a:Int)<m:=Oo
 clear hx h;go_enter func122,ntmps122
 exact Kcb
theorem Qft (g a:Nat)(N:Qak)(x:Tri)(w:World)(h:Qfg w g N) (hx:N.ar[a]?=some x):Calls prog 128 #[.pointer (some ⟨g,0,none⟩),.int .i64 a] w fun e w'=>e=.returned (.int .i64 x.2.2)∧w=w':=by
 have HA:=Zh (show ∀ V,V=w→Calls prog 180 #[.pointer (some ⟨g,0,none⟩),.int .i64 a] V fun e w'=>e=.returned (.bool true)∧V=w' from fun V e=>e▸Qnq g N a w h Oo (by have:=(Zs hx).1;omega));obtain ⟨A,B,C,I,O,P,n,m,k,c,d,e,ci,co,cp,h⟩:=h;have hn1:=h.n1;have ha:a<m:=by have:=(Zs hx).1;rw [h.net.2.1.1] at this;exact this
 have hm:=h.ok.arLe h.net.2.1.1;obtain ⟨b,o,x',y',z',rfl,hx',cx,cy,cz⟩:=h.net.2.1.at_ ha;rw [hx] at hx';cases hx';have i1:0≤(a:Int):=Oo
 have i2:(a:Int)<m:=Oo
 clear hx h;go_enter func128,ntmps128
 exact Kcb
theorem infoClI:(Tryz.prog.info? 3).map (fun i=>(i.zero,i.size,i.bytes))=some (some (.int .i64 0),1,8):=Kf
theorem infoClL:(Tryz.prog.info? 2).map (fun i=>(i.zero,i.size,i.bytes))=some (some (.int .i64 0),1,8):=Kf
theorem Rbm (A:Oz)(n c:Nat)(xs:List Value)(w:World)(h:Rds w 1 A n xs)(h1:∀ u∈xs,u.oneCell'=true)(hn:n≤1000000000) :
 Calls prog 165 #[.slice A n c] w fun e w'=>∃ A' c',e=.returned (.slice A' n c')∧Own w' w.heap.size 2 1 A' n c' xs∧Bw w w':=by
 have q22:∀ (w:World) (a:Oz) (n c n' c':Nat),(binOp .eql 37 (.slice a n c) (.slice none n' c')).run prog w=.ok (.bool a.isNone) w:=fun w a n c n' c'=>Lib.run_eql_slice_nil w _ _ a n c n' c' underlying37
 cases A with
 | none =>
  have hl:xs=[]:=by
   cases hl:xs with
   | nil=>rfl
   | cons p t =>obtain ⟨b,o,e,_⟩:=h.2 0 p (by rw [hl];rfl);cases e
  subst hl;have h0:n=0:=by have:=h.1;simp at this;omega
  subst h0;go_enter func165,ntmps165
  go_wp2;go_ret;exact ⟨none,0,rfl,Own.nil _ _ _ _,Qag⟩
 | some a =>
  have hb1:∀ o,Bw w (w.alloc o):=fun o=>(Zr _ _).alloc (Zn _) o
  have hown0:Own (w.alloc (.cells #[] 2)) w.heap.size 2 1 (some ⟨w.heap.size,0,none⟩) 0 0 []:=Own.lit w #[] 0 (Zn _) Oo rfl;go_enter func165,ntmps165
  go_wp2_with (at_builtin;with_reducible refine Qam rfl (.tmp 5) (.tmp 6) 37 rfl 2 _ 1 8 infoClL underlying37 rfl Oo (B:=w.heap.size) rfl rfl hown0 (h.below (hb1 _)) h1 Oo Oo Sm ?_)
  intro A' c' w' hown hg _;have hb2:Bw w w':=Zo (hb1 _) hg hown0 Sm;try simp only [Yz,List.nil_append] at hown
  have HO:=Zh hown;clear hown hg;go_wp2;go_ret;exact ⟨_,_,rfl,HO.o,hb2⟩
theorem infoClV:(Tryz.prog.info? 196).map (fun i=>(i.zero,i.size,i.bytes))=some (some (.agg #[.int .i64 0,.int .i64 0,.int .i64 0]),3,24):=Kf
theorem Rbn (A:Oz)(n c:Nat)(xs:List Value)(w:World)(h:Rds w 3 A n xs)(h1:∀ u∈xs,u.oneCell'=true)(hn:n≤1000000000) :
 Calls prog 166 #[.slice A n c] w fun e w'=>∃ A' c',e=.returned (.slice A' n c')∧Own w' w.heap.size 196 3 A' n c' xs∧Bw w w':=by
 have q22:∀ (w:World) (a:Oz) (n c n' c':Nat),(binOp .eql 117 (.slice a n c) (.slice none n' c')).run prog w=.ok (.bool a.isNone) w:=fun w a n c n' c'=>Lib.run_eql_slice_nil w _ _ a n c n' c' underlying117
 cases A with
 | none =>
  have hl:xs=[]:=by
   cases hl:xs with
   | nil=>rfl
   | cons p t =>obtain ⟨b,o,e,_⟩:=h.2 0 p (by rw [hl];rfl);cases e
  subst hl;have h0:n=0:=by have:=h.1;simp at this;omega
  subst h0;go_enter func166,ntmps166
  go_wp2;go_ret;exact ⟨none,0,rfl,Own.nil _ _ _ _,Qag⟩
 | some a =>
  have hb1:∀ o,Bw w (w.alloc o):=fun o=>(Zr _ _).alloc (Zn _) o
  have hown0:Own (w.alloc (.cells #[] 196)) w.heap.size 196 3 (some ⟨w.heap.size,0,none⟩) 0 0 []:=Own.lit w #[] 0 (Zn _) Oo rfl;go_enter func166,ntmps166
  go_wp2_with (at_builtin;with_reducible refine Qam rfl (.tmp 5) (.tmp 6) 117 rfl 196 _ 3 24 infoClV underlying117 rfl Oo (B:=w.heap.size) rfl rfl hown0 (h.below (hb1 _)) h1 Oo Oo Sm ?_)
  intro A' c' w' hown hg _;have hb2:Bw w w':=Zo (hb1 _) hg hown0 Sm;try simp only [Yz,List.nil_append] at hown
  have HO:=Zh hown;clear hown hg;go_wp2;go_ret;exact ⟨_,_,rfl,HO.o,hb2⟩
theorem infoClA:(Tryz.prog.info? 197).map (fun i=>(i.zero,i.size,i.bytes))=some (some (.agg #[.int .i64 0,.int .i64 0,.int .i64 0]),3,24):=Kf
theorem Rbl (A:Oz)(n c:Nat)(xs:List Value)(w:World)(h:Rds w 3 A n xs)(h1:∀ u∈xs,u.oneCell'=true)(hn:n≤1000000000) :
 Calls prog 167 #[.slice A n c] w fun e w'=>∃ A' c',e=.returned (.slice A' n c')∧Own w' w.heap.size 197 3 A' n c' xs∧Bw w w':=by
 have q22:∀ (w:World) (a:Oz) (n c n' c':Nat),(binOp .eql 118 (.slice a n c) (.slice none n' c')).run prog w=.ok (.bool a.isNone) w:=fun w a n c n' c'=>Lib.run_eql_slice_nil w _ _ a n c n' c' underlying118
 cases A with
 | none =>
  have hl:xs=[]:=by
   cases hl:xs with
   | nil=>rfl
   | cons p t =>obtain ⟨b,o,e,_⟩:=h.2 0 p (by rw [hl];rfl);cases e
  subst hl;have h0:n=0:=by have:=h.1;simp at this;omega
  subst h0;go_enter func167,ntmps167
  go_wp2;go_ret;exact ⟨none,0,rfl,Own.nil _ _ _ _,Qag⟩
 | some a =>
  have hb1:∀ o,Bw w (w.alloc o):=fun o=>(Zr _ _).alloc (Zn _) o
  have hown0:Own (w.alloc (.cells #[] 197)) w.heap.size 197 3 (some ⟨w.heap.size,0,none⟩) 0 0 []:=Own.lit w #[] 0 (Zn _) Oo rfl;go_enter func167,ntmps167
  go_wp2_with (at_builtin;with_reducible refine Qam rfl (.tmp 5) (.tmp 6) 118 rfl 197 _ 3 24 infoClA underlying118 rfl Oo (B:=w.heap.size) rfl rfl hown0 (h.below (hb1 _)) h1 Oo Oo Sm ?_)
  intro A' c' w' hown hg _;have hb2:Bw w w':=Zo (hb1 _) hg hown0 Sm;try simp only [Yz,List.nil_append] at hown
  have HO:=Zh hown;clear hown hg;go_wp2;go_ret;exact ⟨_,_,rfl,HO.o,hb2⟩
theorem Qkv (A:Oz)(n c:Nat)(xs:List Value)(w:World)(h:Rds w 1 A n xs)(h1:∀ u∈xs,u.oneCell'=true)(hn:n≤1000000000) :
 Calls prog 182 #[.slice A n c] w fun e w'=>∃ A' c',e=.returned (.slice A' n c')∧Own w' w.heap.size 3 1 A' n c' xs∧Bw w w':=by
 have q22:∀ (w:World) (a:Oz) (n c n' c':Nat),(binOp .eql 64 (.slice a n c) (.slice none n' c')).run prog w=.ok (.bool a.isNone) w:=fun w a n c n' c'=>Lib.run_eql_slice_nil w _ _ a n c n' c' underlying64
 cases A with
 | none =>
  have hl:xs=[]:=by
   cases hl:xs with
   | nil=>rfl
   | cons p t =>obtain ⟨b,o,e,_⟩:=h.2 0 p (by rw [hl];rfl);cases e
  subst hl;have h0:n=0:=by have:=h.1;simp at this;omega
  subst h0;go_enter func182,ntmps182
  go_wp2;go_ret;exact ⟨none,0,rfl,Own.nil _ _ _ _,Qag⟩
 | some a =>
  have hb1:∀ o,Bw w (w.alloc o):=fun o=>(Zr _ _).alloc (Zn _) o
  have hown0:Own (w.alloc (.cells #[] 3)) w.heap.size 3 1 (some ⟨w.heap.size,0,none⟩) 0 0 []:=Own.lit w #[] 0 (Zn _) Oo rfl;go_enter func182,ntmps182
  go_wp2_with (at_builtin;with_reducible refine Qam rfl (.tmp 5) (.tmp 6) 64 rfl 3 _ 1 8 infoClI underlying64 rfl Oo (B:=w.heap.size) rfl rfl hown0 (h.below (hb1 _)) h1 Oo Oo Sm ?_)
  intro A' c' w' hown hg _;have hb2:Bw w w':=Zo (hb1 _) hg hown0 Sm;try simp only [Yz,List.nil_append] at hown
  have HO:=Zh hown;clear hown hg;go_wp2;go_ret;exact ⟨_,_,rfl,HO.o,hb2⟩
/-! A binary heap, by the costs at its places; plain. -/
def Ord (c:Nat→Int)(len:Nat):Prop:=∀ i,0<i→i<len→c ((i-1) / 2)≤c i
structure UpO (c:Nat→Int) (len p:Nat):Prop where
 o:∀ i,0<i→i<len→i≠p→c ((i-1) / 2)≤c i
 g:∀ i,0<i→i<len→(i-1) / 2=p→0<p→c ((p-1) / 2)≤c i
structure Qjl (c:Nat→Int) (len p:Nat):Prop where
 o:∀ i,0<i→i<len→(i-1) / 2≠p→c ((i-1) / 2)≤c i
 g:∀ i,0<i→i<len→(i-1) / 2=p→0<p→c ((p-1) / 2)≤c i
def Qpy (c:Nat→Int)(i j:Nat):Nat→Int:=fun x=>if x=i then c j else if x=j then c i else c x
theorem Qjk (c:Nat→Int)(i j:Nat):Qpy c i j i=c j:=by simp [Qpy]
theorem Qyr (c:Nat→Int)(i j:Nat):Qpy c i j j=c i:=by unfold Qpy;by_cases h:j=i;{simp [h]};{simp [h]}
theorem Qhq (c:Nat→Int){i j x:Nat}(h:x≠i)(h':x≠j):Qpy c i j x=c x:=by simp [Qpy,h,h']
theorem UpO.done {c:Nat→Int}{len p:Nat}(h:UpO c len p) (hp:p=0∨c ((p-1) / 2)≤c p):Ord c len:=fun i h0 hl=>by by_cases e:i=p;{subst e;(rcases hp with hp|hp);{omega};{exact hp}};{exact h.o i h0 hl e}
theorem UpO.step {c:Nat→Int}{len p:Nat}(h:UpO c len p)(h0:0<p)(hl:p<len) (hc:c p≤c ((p-1) / 2)):UpO (Qpy c p ((p-1) / 2)) len ((p-1) / 2):=by
 have hq:(p-1) / 2<p:=Oo
 generalize hqe:(p-1) / 2=q at *;refine ⟨fun i hi hil hne=>?_,fun i hi hil hpi hqp=>?_⟩;{by_cases e1:i=p;{subst e1;rw [hqe,Qyr,Qjk];exact hc};{rw [Qhq c e1 hne];by_cases e2:(i-1) / 2=p;{rw [e2,Qjk];have:=h.g i hi hil e2 h0;rw [hqe] at this;exact this};{by_cases e3:(i-1) / 2=q;{rw [e3,Qyr];have:=h.o i hi hil e1;rw [e3] at this;omega};{rw [Qhq c e2 e3];exact h.o i hi hil e1}}}};{(have e0:(q-1) / 2≠q:=Oo);(have e0':(q-1) / 2≠p:=Oo);rw [Qhq c e0' e0];have hgq:=h.o q hqp Oo Oo;by_cases e1:i=p;{subst e1;rw [Qjk];exact hgq};{rw [Qhq c e1 Oo];have:=h.o i hi hil e1;rw [hpi] at this;omega}}
theorem Qjl.done {c:Nat→Int}{len p:Nat}(h:Qjl c len p) (hp:∀ i,0<i→i<len→(i-1) / 2=p→c p≤c i):Ord c len:=fun i h0 hl=>by by_cases e:(i-1) / 2=p;{rw [e];exact hp i h0 hl e};{exact h.o i h0 hl e}
theorem Qjl.step {c:Nat→Int}{len p m:Nat}(h:Qjl c len p)(h0:0<m)(hl:m<len) (hm:(m-1) / 2=p) (hc:c m≤c p) (ho:∀ i,0<i→i<len→(i-1) / 2=p→c m≤c i):Qjl (Qpy c p m) len m:=by
 have hpm:p<m:=Oo
 refine ⟨fun i hi hil hne=>?_,fun i hi hil hpi _=>?_⟩;{by_cases e1:i=m;{subst e1;rw [hm,Qjk,Qyr];exact hc};{by_cases e2:i=p;{subst e2;(have e3:(i-1) / 2≠i:=Oo);rw [Qjk,Qhq c e3 hne];exact h.g m h0 hl hm hi};{rw [Qhq c e2 e1];by_cases e3:(i-1) / 2=p;{rw [e3,Qjk];exact ho i hi hil e3};{rw [Qhq c e3 hne];exact h.o i hi hil e3}}}};{rw [hm,Qjk,Qhq c Oo Oo];have:=h.o i hi hil Oo;rw [hpi] at this;exact this}
theorem Ord.root {c:Nat→Int}{len:Nat}(h:Ord c len):∀ i,i<len→c 0≤c i:=by
 intro i
 induction i using Nat.strongRecOn with
 | ind i ih =>intro hl;by_cases e:i=0;{subst e;exact Int.le_refl _};{have h1:=h i Oo hl;have h2:=ih ((i-1) / 2) Oo Oo;omega}
theorem Ord.pop {c c':Nat→Int}{len:Nat} (h:Ord c (len+1)) (hc:∀ i,0<i→i<len→c' i=c i):Qjl c' len 0 :=
 ⟨fun i hi hl hne=>by rw [hc i hi hl,hc _ Oo Oo];exact h i hi Oo,fun i hi hl hp h0=>by omega⟩
theorem Ord.push {c c':Nat→Int}{len:Nat}(h:Ord c len)(hc:∀ i,i<len→c' i=c i):UpO c' (len+1) len :=
 ⟨fun i hi hl hne=>by rw [hc i Oo,hc _ Oo];exact h i hi Oo,fun i hi hl hp h0=>by omega⟩
theorem Ord.lower {c c':Nat→Int}{len p:Nat}(h:Ord c len)(hc:∀ i,i<len→i≠p→c' i=c i)(hp:c' p≤c p)(hl:p<len):UpO c' len p :=
 ⟨fun i hi hil hne=>by
  rw [hc i hil hne]
  by_cases e:(i-1) / 2=p
  · have:=h i hi hil;rw [e] at this ⊢;omega
  · rw [hc _ Oo e];exact h i hi hil,fun i hi hil hpi h0=>by
  have h1:=h i hi hil;have h2:=h p h0 hl;rw [hpi] at h1;rw [hc i hil Oo,hc _ Oo Oo];omega⟩
structure HpS (n:Nat) (r:List Nat) (cs:Iz) (st:List Nat):Prop where
 lc:cs.length=n
 ls:st.length=n
 seat:∀ i k,r[i]?=some k→k<n∧st[k]?=some (i+1)
 none_:∀ k i,st[k]?=some (i+1)→r[i]?=some k
def at_ (r:List Nat)(cs:Iz)(i:Nat):Int:=cs.getD (r.getD i 0) 0
theorem HpS.nodup {n:Nat}{r:List Nat}{cs:Iz}{st:List Nat}(h:HpS n r cs st){i j k:Nat} (hi:r[i]?=some k) (hj:r[j]?=some k):i=j:=by
 have h1:=(h.seat i k hi).2;have h2:=(h.seat j k hj).2;rw [h1] at h2;injection h2 with h2
 omega
def Qep (r:List Nat)(i j:Nat):List Nat:=(r.set i (r.getD j 0)).set j (r.getD i 0)
theorem Qct {α:Type}{l:List α}{i:Nat}{x d:α} (h:l[i]?=some x):l.getD i d=x:=by rw [Ya,h];rfl
theorem Qbo {α:Type}{l:List α}{i:Nat}(d:α)(h:i<l.length):l[i]?=some (l.getD i d):=by rw [Ya,Zg h];rfl
theorem Qec {r:List Nat}{i j x:Nat}(hi:i<r.length)(hj:j<r.length):(Qep r i j)[x]?=if x=j then r[i]? else if x=i then r[j]? else r[x]?:=by unfold Qep;by_cases e:x=j;{subst e;rw [Yg (by rw [Yq];exact hj),if_pos rfl,Qbo 0 hi]};{rw [if_neg e,Yh (fun h=>e h.symm)];by_cases e2:x=i;{subst e2;rw [Yg hi,if_pos rfl,Qbo 0 hj]};{rw [if_neg e2,Yh (fun h=>e2 h.symm)]}}
def Qmj (r st:List Nat)(i j:Nat):List Nat:=(st.set (r.getD j 0) (i+1)).set (r.getD i 0) (j+1)
theorem HpS.swap {n:Nat}{r:List Nat}{cs:Iz}{st:List Nat}(h:HpS n r cs st){i j:Nat}(hi:i<r.length)(hj:j<r.length):HpS n (Qep r i j) cs (Qmj r st i j):=by
 have ri:=Qbo 0 hi;have rj:=Qbo 0 hj;generalize hki:r.getD i 0=ki at *;generalize hkj:r.getD j 0=kj at *;have si:=h.seat i ki ri;have sj:=h.seat j kj rj;have sget:∀ x,(Qmj r st i j)[x]?=if x=ki then (if ki<st.length then some (j+1) else none) else if x=kj then (if kj<st.length then some (i+1) else none) else st[x]?:=fun x=>by{unfold Qmj;rw [hki,hkj];by_cases e:x=ki;{subst e;rw [if_pos rfl,List.getElem?_set];simp};{rw [if_neg e,Yh (fun h=>e h.symm)];by_cases e2:x=kj;{subst e2;rw [if_pos rfl,List.getElem?_set];simp};{rw [if_neg e2,Yh (fun h=>e2 h.symm)]}}}
 refine ⟨h.lc,by unfold Qmj;rw [Yq,Yq];exact h.ls,fun x k hx=>?_,fun k x hk=>?_⟩;{rw [Qec hi hj] at hx;rw [sget];by_cases e:x=j;{subst e;rw [if_pos rfl,ri] at hx;cases hx;exact ⟨si.1,by rw [if_pos rfl,if_pos (by rw [h.ls];exact si.1)]⟩};{rw [if_neg e] at hx;by_cases e2:x=i;{subst e2;rw [if_pos rfl,rj] at hx;cases hx;(have hne:kj≠ki:=fun e3=>e (by rw [e3] at rj;exact h.nodup ri rj));exact ⟨sj.1,by rw [if_neg hne,if_pos rfl,if_pos (by rw [h.ls];exact sj.1)]⟩};{rw [if_neg e2] at hx;have hs:=h.seat x k hx;exact ⟨hs.1,by rw [if_neg (fun e3=>e2 (by rw [e3] at hx;exact h.nodup hx ri)),if_neg (fun e3=>e (by rw [e3] at hx;exact h.nodup hx rj))];exact hs.2⟩}}};{rw [sget] at hk;rw [Qec hi hj];by_cases e:k=ki;{subst e;(rw [if_pos rfl,if_pos (by rw [h.ls];exact si.1)] at hk;have:x=j:=by injection hk with hk;omega);rw [if_pos this];exact ri};{rw [if_neg e] at hk;by_cases e2:k=kj;{subst e2;(rw [if_pos rfl,if_pos (by rw [h.ls];exact sj.1)] at hk;have:x=i:=by injection hk with hk;omega);by_cases e3:x=j;{exact absurd (by rw [←this,e3] at ri;rw [ri] at rj;exact (Yv rj).symm) e};{rw [if_neg e3,if_pos this];exact rj}};{rw [if_neg e2] at hk;have hr:=h.none_ k x hk;rw [if_neg (fun e3=>e2 (by rw [e3,rj] at hr;exact (Yv hr).symm)),if_neg (fun e3=>e (by rw [e3,ri] at hr;exact (Yv hr).symm))];exact hr}}}
theorem Ref {r:List Nat}{cs:Iz}{i j:Nat}(hi:i<r.length)(hj:j<r.length)(x:Nat)(hx:x<r.length):at_ (Qep r i j) cs x=Qpy (at_ r cs) i j x:=by unfold at_ Qpy;have hg:=Qec (x:=x) hi hj;by_cases e:x=j;{subst e;rw [if_pos rfl] at hg;rw [Qct (hg.trans (Qbo 0 hi))];by_cases e2:x=i;{subst e2;simp};{simp [e2]}};{rw [if_neg e] at hg;by_cases e2:x=i;{subst e2;rw [if_pos rfl] at hg;rw [Qct (hg.trans (Qbo 0 hj))];simp};{rw [if_neg e2] at hg;rw [Qct (hg.trans (Qbo 0 hx))];simp [e,e2]}}
theorem Qga (r:List Nat)(i j:Nat):(Qep r i j).length=r.length:=by simp [Qep]
structure Aft (G:Nat→Prop) (W W':World):Prop where
 kept:Qaz G W W'
 size:W.heap.size≤W'.heap.size
 bel:∀ B,(∀ b,b<B→G b)→Below B W W'
theorem Aft.refl (G:Nat→Prop)(W:World):Aft G W W:=⟨Qaz.refl _ _,Zn _,fun _ _=>Zr _ _⟩
theorem Aft.trans {G:Nat→Prop}{a b c:World}(h:Aft G a b)(k:Aft G b c):Aft G a c:=⟨h.kept.trans k.kept h.size,Yx h.size k.size,fun B hB=>(h.bel B hB).trans (k.bel B hB)⟩
theorem Aft.drew {G:Nat→Prop}{a b:World}(h:Aft G a b):Aft G a b.drew:=⟨h.kept,h.size,fun B hB=>(h.bel B hB).drew⟩
theorem Aft.drewN {G:Nat→Prop}{a b:World}(h:Aft G a b)(n:Nat):Aft G a (b.drewN n):=⟨h.kept,h.size,fun B hB=>Qbd (h.bel B hB) n⟩
theorem Aft.set {G:Nat→Prop}{a b:World}{g i:Nat}(h:Aft G a b)(hg:¬G g)(v:Value):Aft G a (b.setCell ⟨g,i,none⟩ v) :=
 ⟨h.kept.trans (Qaz.set _ _ _ _ hg) h.size,by simpa [World.setCell] using h.size,fun B hB=>(h.bel B hB).setCell (Nat.le_of_not_lt fun hl=>hg (hB g hl)) v⟩
theorem Aft.below {G:Nat→Prop}{W W':World}(h:Bw W W')(hG:∀ b,G b→b<W.heap.size):Aft G W W' :=
 ⟨Qaz.below h,h.size,fun B hB=>by
  refine h.mono ?_
  rcases Nat.lt_or_ge W.heap.size B with hl|hl
  · exact absurd (hG _ (hB _ hl)) Oo
  · exact hl⟩
def nis (l:List Nat):Iz:=l.map (fun (k:Nat)=>(k:Int))
theorem Qeg (l:List Nat):(nis l).length=l.length:=by simp [nis]
theorem Qez {l:List Nat}{i k:Nat} (h:l[i]?=some k):(nis l)[i]?=some (k:Int):=by simp [nis,h]
theorem Rgz (l:List Nat)(i k:Nat):(nis l).set i (k:Int)=nis (l.set i k):=by simp [nis,List.map_set]
theorem Qsh (l m:List Nat):nis (l ++m)=nis l ++nis m:=by simp [nis]
theorem Qhx {l:Iz}{i:Nat}{x:Int} (h:l[i]?=some x):(Qae l)[i]?=some (.int .i64 x):=by simp [Qae,h]
theorem Rbz (l:Iz)(k:Nat)(x:Int):(Qae l).set k (.int .i64 x)=Qae (l.set k x):=by simp [Qae,List.map_set]
theorem Own.putAt {W:World}{B n c k s g o:Nat}{e:TypeId}{xs:List Value} (h:Own W B e s (some ⟨g,o,none⟩) n c xs) (v:Value):Own (W.setCell ⟨g,o+k,none⟩ v) B e s (some ⟨g,o,none⟩) n c (xs.set k v):=by
 refine ⟨by rw [Yq];exact h.1,?_⟩;rcases h.2 with ⟨h',_⟩|⟨g',cap',cur,h1,h2,h3,h4,h5,h6,h7⟩
 {cases h'};{cases h1;refine Or.inr ⟨g,c,cur.setIfInBounds (0+k) v,rfl,h2,(show Blk W g e cur from h3).set_ (0+k) _,h4,h5,by simpa using h6,?_⟩;rw [Array.toList_setIfInBounds,List.take_set,h7,Yz]}
theorem Own.front_ {w:World}{B s n n' c:Nat}{e:TypeId}{A:Oz}{xs xs':List Value}(h:Own w B e s A n c xs)(hn:n'≤n) (hx:xs.take (n'*s)=xs'):Own w B e s A n' c xs':=by
 subst hx;refine ⟨by rw [Yw,h.1,Nat.min_eq_left (Nat.mul_le_mul_right s hn)],?_⟩;rcases h.2 with ⟨h',h0⟩|⟨g',cap',cur,h1,h2,h3,h4,h5,h6,h7⟩
 {cases h';(obtain rfl:n'=0:=Oo);exact .inl ⟨rfl,rfl⟩};{cases h1;refine .inr ⟨g',c,cur,rfl,h2,h3,Oo,h5,h6,?_⟩;rw [←h7,List.take_take,Nat.min_eq_left (Nat.mul_le_mul_right s hn)]}
structure Qbh (W:World) (G:Nat→Prop) (g:Nat) (A:Oz) (gc gs n m c:Nat) (R:List Nat) (C:Iz) (S:List Nat):Prop where
 blk:Blk W g 305 #[.slice A m c,.slice (some ⟨gc,0,none⟩) n n,.slice (some ⟨gs,0,none⟩) n n]
 row:Own W 0 3 1 A m c (Qae (nis R))
 cs:Blk W gc 2 (Qbr C)
 ss:Blk W gs 3 (Qbr (nis S))
 dA:∀ b,Qaa A=some b→b≠g∧b≠gc∧b≠gs∧¬G b
 dg:g≠gc∧g≠gs∧gc≠gs
 dG:¬G g∧¬G gc∧¬G gs
 lt:∀ b,G b→b<W.heap.size
 lr:R.length=m
 lc:C.length=n
 ls:S.length=n
 n0:n≤16384
section
variable {W W':World} {G:Nat→Prop} {g gc gs n m c:Nat} {A:Oz} {R:List Nat} {C:Iz} {S:List Nat}
theorem Qbh.drew (h:Qbh W G g A gc gs n m c R C S):Qbh W.drew G g A gc gs n m c R C S:=⟨h.blk,h.row,h.cs,h.ss,h.dA,h.dg,h.dG,h.lt,h.lr,h.lc,h.ls,h.n0⟩
theorem Qbh.drewN (h:Qbh W G g A gc gs n m c R C S)(k:Nat):Qbh (W.drewN k) G g A gc gs n m c R C S:=⟨h.blk,h.row,h.cs,h.ss,h.dA,h.dg,h.dG,h.lt,h.lr,h.lc,h.ls,h.n0⟩
theorem Qbh.setR {gr i k:Nat} (h:Qbh W G g (some ⟨gr,0,none⟩) gc gs n m c R C S):Qbh (W.setCell ⟨gr,i,none⟩ (.int .i64 (k:Int))) G g (some ⟨gr,0,none⟩) gc gs n m c (R.set i k) C S:=by obtain ⟨d1,d2,d3,d4⟩:=h.dA gr rfl;have h1:=h.row.putAt (k:=i) (.int .i64 (k:Int));rw [Yz,Rbz,Rgz] at h1;exact ⟨h.blk.far_ (fun e=>d1 e.symm) _,h1,h.cs.far_ (fun e=>d2 e.symm) _,h.ss.far_ (fun e=>d3 e.symm) _,h.dA,h.dg,h.dG,fun b hb=>by simpa [World.setCell] using h.lt b hb,by rw [Yq];exact h.lr,h.lc,h.ls,h.n0⟩
theorem Qbh.setC {i:Nat}{x:Int}(h:Qbh W G g A gc gs n m c R C S):Qbh (W.setCell ⟨gc,i,none⟩ (.int .i64 x)) G g A gc gs n m c R (C.set i x) S :=
 ⟨h.blk.far_ h.dg.1 _,h.row.far (Qac _ _ _ _) (.inr fun e=>(h.dA gc e).2.1 rfl),h.cs.setI rfl,h.ss.far_ (fun e=>h.dg.2.2 e.symm) _,h.dA,h.dg,h.dG,fun b hb=>by simpa [World.setCell] using h.lt b hb,h.lr,by rw [Yq];exact h.lc,h.ls,h.n0⟩
theorem Qbh.setS {i k:Nat}(h:Qbh W G g A gc gs n m c R C S):Qbh (W.setCell ⟨gs,i,none⟩ (.int .i64 (k:Int))) G g A gc gs n m c R C (S.set i k) :=
 ⟨h.blk.far_ h.dg.2.1 _,h.row.far (Qac _ _ _ _) (.inr fun e=>(h.dA gs e).2.2.1 rfl),h.cs.far_ h.dg.2.2 _,h.ss.setI (Rgz _ _ _),h.dA,h.dg,h.dG,fun b hb=>by simpa [World.setCell] using h.lt b hb,h.lr,h.lc,by rw [Yq];exact h.ls,h.n0⟩
theorem Qbh.keep (h:Qbh W G g A gc gs n m c R C S)(hz:Bw W W'):Qbh W' G g A gc gs n m c R C S :=
 ⟨h.blk.below hz h.blk.lt,h.row.below hz,h.cs.below hz h.cs.lt,h.ss.below hz h.ss.lt,h.dA,h.dg,h.dG,fun b hb=>Yu (h.lt b hb) hz.size,h.lr,h.lc,h.ls,h.n0⟩
theorem Qbh.more {G':Nat→Prop}(h:Qbh W G g A gc gs n m c R C S)(hb:Bw W W') (hG:∀ b,G' b→b<W'.heap.size∧(G b∨W.heap.size≤b)):Qbh W' G' g A gc gs n m c R C S:=by
 have ho:∀ b,b<W.heap.size→¬G b→¬G' b:=fun b h1 h2 h3=>(hG b h3).2.elim h2 (fun h4=>by omega)
 have k:=h.keep hb;exact ⟨k.blk,k.row,k.cs,k.ss,fun b hb'=>⟨(h.dA b hb').1,(h.dA b hb').2.1,(h.dA b hb').2.2.1,ho b (h.row.lt b hb').2 (h.dA b hb').2.2.2⟩,h.dg,⟨ho _ h.blk.lt h.dG.1,ho _ h.cs.lt h.dG.2.1,ho _ h.ss.lt h.dG.2.2⟩,fun b hb'=>(hG b hb').1,h.lr,h.lc,h.ls,h.n0⟩
theorem Qbh.f0 (h:Qbh W G g A gc gs n m c R C S):W.cell? ⟨g,0,none⟩=some (.slice A m c):=Zq h.blk
theorem Qbh.f1 (h:Qbh W G g A gc gs n m c R C S):W.cell? ⟨g,1,none⟩=some (.slice (some ⟨gc,0,none⟩) n n):=Zq h.blk
theorem Qbh.f2 (h:Qbh W G g A gc gs n m c R C S):W.cell? ⟨g,2,none⟩=some (.slice (some ⟨gs,0,none⟩) n n):=Zq h.blk
theorem Qbh.rowAt {gr i k:Nat} (h:Qbh W G g (some ⟨gr,0,none⟩) gc gs n m c R C S) (hk:R[i]?=some k):W.cell? ⟨gr,i,none⟩=some (.int .i64 (k:Int)):=by obtain ⟨b,o,e,hc⟩:=h.row.rds.2 i _ (Qhx (Qez hk));cases e;rwa [Yz] at hc
theorem Qbh.costAt {i:Nat}{x:Int}(h:Qbh W G g A gc gs n m c R C S) (hk:C[i]?=some x):W.cell? ⟨gc,i,none⟩=some (.int .i64 x):=h.cs.cellI hk
theorem Qbh.seatAt {i k:Nat}(h:Qbh W G g A gc gs n m c R C S) (hk:S[i]?=some k):W.cell? ⟨gs,i,none⟩=some (.int .i64 (k:Int)):=h.ss.cellI (Qez hk)
theorem Qbh.rowBlk (h:Qbh W G g A gc gs n m c R C S)(hm:0<m):∃ gr,A=some ⟨gr,0,none⟩∧W.frozen? ⟨gr,0,none⟩=false:=by obtain ⟨gr,cur,e,_,hb,_⟩:=h.row.block hm;exact ⟨gr,e,hb.frozen 0⟩
theorem Qbh.fzR {gr i:Nat} (h:Qbh W G g (some ⟨gr,0,none⟩) gc gs n m c R C S):W.frozen? ⟨gr,i,none⟩=false:=(h.row.warm gr rfl).2 i
theorem Qbh.cap (h:Qbh W G g A gc gs n m c R C S):m≤c∧c≤9223372036854775807:=⟨h.row.cap,h.row.capMax⟩
end
section
variable {P:Program} {ops:Array Oper} {Q:Exit→Act→World→Prop} {md:Region.Mode} {S:World→Prop} {k:Nat}
def Qdr (P:Program)(md:Region.Mode)(ops:Array Oper)(Q:Exit→Act→World→Prop)(S:World→Prop)(k:Nat):Nat→Array Bool→Act→World→Prop
 | 0,listed,a,w=>Region.ready md ops listed=[]∧Q .normal a w
 | fuel+1,listed,a,w =>
  (Region.ready md ops listed=[]→Q .normal a w) ∧
  ∀ i∈Region.ready md ops listed,wpOp P ops Q i (fun a' w'=>if i=k then wpAny P md ops Q fuel (listed.setIfInBounds i true) a' w' else S w'∧Qdr P md ops Q S k fuel (listed.setIfInBounds i true) a' w') a w
theorem Qqz:∀ (fuel:Nat)(listed:Array Bool)(a:Act)(w:World),Qdr P md ops Q S k fuel listed a w→wpAny P md ops Q fuel listed a w
 | 0,_,_,_,h=>h
 | fuel+1,_,_,_,h=>⟨h.1,fun i hi=>wpOp_mono (fun a' w' h'=>by
  by_cases e:i=k
  · rw [if_pos e] at h';exact h'
  · rw [if_neg e] at h';exact Qqz fuel _ a' w' h'.2) (h.2 i hi)⟩
def Qgw (md:Region.Mode)(ops:Array Oper)(k i:Nat):Bool:=(ops[k]?).elim false fun o=>o.after.any fun e=>Region.binds md e && e.on == i
theorem Qph {i:Nat}{listed:Array Bool}(h:Qgw md ops k i=true)(hi:i∈Region.ready md ops listed):k ∉ Region.ready md ops listed:=by
 intro hk;obtain ⟨_,o,ho,hall⟩:=mem_ready.1 hk;unfold Qgw at h;rw [ho] at h;simp only [Option.elim,Array.any_eq_true',Bool.and_eq_true,beq_iff_eq] at h;obtain ⟨e,he,hb,hon⟩:=h;have h1:=hall e he hb;have h0:=(mem_ready.1 hi).1;rw [hon] at h1;simp only [Array.getD_eq_getD_getElem?] at h0 h1
 cases hx:listed[i]? with
 | none=>rw [hx] at h0;cases h0
 | some b=>rw [hx] at h0 h1;simp at h0 h1;rw [h0] at h1;cases h1
theorem Qwd {i:Nat}{oi:Oper}{v:Value} (hi:ops[i]?=some oi) (hsel:∀ (j:Nat) (o:Oper) cs b,ops[j]?=some o→o.op≠.select cs b)
 (hQ:∀ c a w,Q (.panic c) (a.put oi.dst v) w→Q (.panic c) a w) (hwk:Qgw md ops k i=true) (hik:i≠k) :
 ∀ (fuel:Nat) (listed:Array Bool) (a:Act) (w:World),
  (∀ j oj,ops[j]?=some oj→j≠i→listed.getD j true=false→(∀ e∈oj.after,Region.binds md e=true→e.on≠i)→oi.apart ops oj=true) →
  i∈Region.ready md ops listed→YieldsIf P ops S oi v a→S w →
  Qdr P md ops Q S k fuel (listed.setIfInBounds i true) (a.put oi.dst v) w→Qdr P md ops Q S k (fuel+1) listed a w:=by
 intro fuel
 induction fuel with
 | zero =>intro listed a w _ hr hy hS H;refine ⟨fun h=>(by rw [h] at hr;cases hr),fun j hj=>?_⟩;by_cases hji:j=i;{subst hji;refine hy.wpOp hi hS ?_;rw [if_neg hik];exact ⟨hS,H⟩};{have:=ready_mono hj hji;rw [H.1] at this;cases this}
 | succ fuel ih =>
  intro listed a w hfree hr hy hS H;refine ⟨fun h=>(by rw [h] at hr;cases hr),fun j hj=>?_⟩;by_cases hji:j=i;{subst hji;refine hy.wpOp hi hS ?_;rw [if_neg hik];exact ⟨hS,H⟩}
  · (have hjk:j≠k:=fun e=>Qph hwk hr (e▸hj));have h1:=H.2 j (ready_mono hj hji);obtain ⟨hjun,oj,hoj,hall⟩:=mem_ready.1 hj;have hnot:∀ e∈oj.after,Region.binds md e=true→e.on≠i:=fun e he hb heq=>by{exact Kcw};have h2:=wpOp_putIf hoj (hfree j oj hoj hji hjun hnot) (fun cs b=>hsel i oi cs b hi) (fun cs b=>hsel j oj cs b hoj) hQ hy h1
    have hfree':∀ q oq,ops[q]?=some oq→q≠i→(listed.setIfInBounds j true).getD q true=false →
     (∀ e∈oq.after,Region.binds md e=true→e.on≠i)→oi.apart ops oq=true:=fun q oq hq hqi hun hno=>by
     refine hfree q oq hq hqi ?_ hno
     by_cases hjq:j=q
     · subst hjq;exact hjun
     · rw [getD_set_ne true hjq] at hun;exact hun
    refine wpOp_mono (fun a' w' h3=>?_) h2;rw [if_neg hjk] at h3 ⊢;refine ⟨h3.2.1,ih (listed.setIfInBounds j true) a' w' hfree' (ready_mono hr (Ne.symm hji)) h3.1 h3.2.1 ?_⟩;rw [Array.setIfInBounds_comm _ _ hji];exact h3.2.2
theorem takeK_ {i:Nat}{oi:Oper}{d:Option Tmp}{v:Value}{fuel:Nat}{listed:Array Bool}{a:Act}{w:World} (hi:ops[i]?=some oi) (hd:oi.dst=d)
 (hwk:Qgw md ops k i=true) (hik:(i == k)=false) (hs:Region.noSelect ops=true) (hf:Region.free md ops listed i=true) (hr:(Region.ready md ops listed).contains i=true)
 (hQ:∀ c a w,Q (.panic c) (a.put oi.dst v) w→Q (.panic c) a w) (hw:Region.wanted oi (yielded ops a.tmps)=true) (hy:∀ w,S w→(execOp a.eval oi).run P w=.ok (.value v) w) (hS:S w)
 (h:Qdr P md ops Q S k fuel (listed.setIfInBounds i true) (a.put d v) w):Qdr P md ops Q S k (fuel+1) listed a w:=by subst hd;exact Qwd hi (Region.noSelect_spec hs) hQ hwk (by simpa using hik) fuel listed a w (Region.free_spec hi hf) (by simpa using hr) (Or.inl ⟨hw,hy⟩) hS h
theorem Qyx {i:Nat}{oi:Oper}{v:Value} (hi:ops[i]?=some oi) (hsel:∀ (j:Nat) (o:Oper) cs b,ops[j]?=some o→o.op≠.select cs b)
 (hQ:∀ c a w,Q (.panic c) (a.put oi.dst v) w→Q (.panic c) a w) (hik:i≠k) :
 ∀ (fuel:Nat) (listed:Array Bool) (a:Act) (w:World),
  (∀ j oj,ops[j]?=some oj→j≠i→listed.getD j true=false→(∀ e∈oj.after,Region.binds md e=true→e.on≠i)→oi.apart ops oj=true) →
  i∈Region.ready md ops listed→YieldsIf P ops (fun _=>True) oi v a→S w →
  Qdr P md ops Q S k fuel (listed.setIfInBounds i true) (a.put oi.dst v) w→Qdr P md ops Q S k (fuel+1) listed a w:=by
 intro fuel
 induction fuel with
 | zero =>intro listed a w _ hr hy hS H;refine ⟨fun h=>(by rw [h] at hr;cases hr),fun j hj=>?_⟩;by_cases hji:j=i;{subst hji;refine hy.wpOp hi trivial ?_;rw [if_neg hik];exact ⟨hS,H⟩};{have:=ready_mono hj hji;rw [H.1] at this;cases this}
 | succ fuel ih =>
  intro listed a w hfree hr hy hS H;refine ⟨fun h=>(by rw [h] at hr;cases hr),fun j hj=>?_⟩;by_cases hji:j=i;{subst hji;refine hy.wpOp hi trivial ?_;rw [if_neg hik];exact ⟨hS,H⟩}
  · have h1:=H.2 j (ready_mono hj hji);obtain ⟨hjun,oj,hoj,hall⟩:=mem_ready.1 hj;have hnot:∀ e∈oj.after,Region.binds md e=true→e.on≠i:=fun e he hb heq=>by{exact Kcw};have h2:=wpOp_putIf hoj (hfree j oj hoj hji hjun hnot) (fun cs b=>hsel i oi cs b hi) (fun cs b=>hsel j oj cs b hoj) hQ hy h1
    have hfree':∀ q oq,ops[q]?=some oq→q≠i→(listed.setIfInBounds j true).getD q true=false →
     (∀ e∈oq.after,Region.binds md e=true→e.on≠i)→oi.apart ops oq=true:=fun q oq hq hqi hun hno=>by
     refine hfree q oq hq hqi ?_ hno
     by_cases hjq:j=q
     · subst hjq;exact hjun
     · rw [getD_set_ne true hjq] at hun;exact hun
    refine wpOp_mono (fun a' w' h3=>?_) h2;by_cases hjk:j=k;{rw [if_pos hjk] at h3 ⊢;refine wpAny_first hi hsel hQ fuel (listed.setIfInBounds j true) a' w' hfree' (ready_mono hr (Ne.symm hji)) (h3.1.imp (fun ⟨ha,hb⟩=>⟨ha,fun w=>hb w trivial⟩) id) ?_;rw [Array.setIfInBounds_comm _ _ hji];exact h3.2};{rw [if_neg hjk] at h3 ⊢;refine ⟨h3.2.1,ih (listed.setIfInBounds j true) a' w' hfree' (ready_mono hr (Ne.symm hji)) h3.1 h3.2.1 ?_⟩;rw [Array.setIfInBounds_comm _ _ hji];exact h3.2.2}
theorem takeF_ {i:Nat}{oi:Oper}{d:Option Tmp}{v:Value}{fuel:Nat}{listed:Array Bool}{a:Act}{w:World} (hi:ops[i]?=some oi) (hd:oi.dst=d)
 (hik:(i == k)=false) (hs:Region.noSelect ops=true) (hf:Region.free md ops listed i=true) (hr:(Region.ready md ops listed).contains i=true)
 (hQ:∀ c a w,Q (.panic c) (a.put oi.dst v) w→Q (.panic c) a w) (hw:Region.wanted oi (yielded ops a.tmps)=true) (hy:∀ w,True→(execOp a.eval oi).run P w=.ok (.value v) w) (hS:S w)
 (h:Qdr P md ops Q S k fuel (listed.setIfInBounds i true) (a.put d v) w):Qdr P md ops Q S k (fuel+1) listed a w:=by subst hd;exact Qyx hi (Region.noSelect_spec hs) hQ (by simpa using hik) fuel listed a w (Region.free_spec hi hf) (by simpa using hr) (Or.inl ⟨hw,hy⟩) hS h
theorem tkK (i d:Nat){oi:Oper}{fuel:Nat}{listed:Array Bool}{a:Act}{w:World} (hi:ops[i]?=some oi:=by rfl) (hd:oi.dst=some d:=by rfl) (hwk:Qgw md ops k i=true:=by kernel_rfl) (hik:(i == k)=false:=by rfl) (hs:Region.noSelect ops=true:=by kernel_rfl)
 (hf:Region.free md ops listed i=true:=by kernel_rfl) (hr:(Region.ready md ops listed).contains i=true:=by kernel_rfl) (hQ:∀ c a w v,Q (.panic c) (a.put oi.dst v) w→Q (.panic c) a w:=by exact fun _ _ _ _ h=>h) (hw:Region.wanted oi (yielded ops a.tmps)=true:=by rfl) (hS:S w:=by first|rfl|trivial|assumption)
 (h:∃ v,(∀ w,S w→(execOp a.eval oi).run P w=.ok (.value v) w)∧Qdr P md ops Q S k fuel (listed.setIfInBounds i true) (a.put (some d) v) w):Qdr P md ops Q S k (fuel+1) listed a w:=by obtain ⟨v,h1,h2⟩:=h;exact takeK_ (i:=i) (d:=some d) (v:=v) hi hd hwk hik hs hf hr (fun c a w=>hQ c a w v) hw h1 hS h2
theorem tkF (i d:Nat){oi:Oper}{fuel:Nat}{listed:Array Bool}{a:Act}{w:World} (hi:ops[i]?=some oi:=by rfl) (hd:oi.dst=some d:=by rfl) (hik:(i == k)=false:=by rfl) (hs:Region.noSelect ops=true:=by kernel_rfl)
 (hf:Region.free md ops listed i=true:=by kernel_rfl) (hr:(Region.ready md ops listed).contains i=true:=by kernel_rfl) (hQ:∀ c a w v,Q (.panic c) (a.put oi.dst v) w→Q (.panic c) a w:=by exact fun _ _ _ _ h=>h) (hw:Region.wanted oi (yielded ops a.tmps)=true:=by rfl) (hS:S w:=by first|rfl|trivial|assumption)
 (h:∃ v,(∀ w,True→(execOp a.eval oi).run P w=.ok (.value v) w)∧Qdr P md ops Q S k fuel (listed.setIfInBounds i true) (a.put (some d) v) w):Qdr P md ops Q S k (fuel+1) listed a w:=by obtain ⟨v,h1,h2⟩:=h;exact takeF_ (i:=i) (d:=some d) (v:=v) hi hd hik hs hf hr (fun c a w=>hQ c a w v) hw h1 hS h2
theorem Qcb {o:Oper}{fuel:Nat}{listed:Array Bool}{a:Act}{w:World} (hr:Region.ready md ops listed=[k]) (ho:ops[k]?=some o)
 (h:∀ K':Act→World→Prop,Shut (∀ a w,wpAny P md ops Q fuel (listed.setIfInBounds k true) a w→K' a w)→if Region.wanted o (yielded ops a.tmps)=true then Oper.wp P o a w K' Q else K' (a.put o.dst undef) w) :
 Qdr P md ops Q S k (fuel+1) listed a w:=by
 refine ⟨fun h0=>(by rw [hr] at h0;cases h0),fun j hj=>?_⟩;rw [hr] at hj;obtain rfl:j=k:=by simpa using hj
 refine wpOp_step ho (fun K' hK=>h K' (fun a w hW=>hK a w ?_));rw [if_pos rfl];exact hW
theorem Qbz {i:Nat}{o:Oper}{fuel:Nat}{listed:Array Bool}{a:Act}{w:World} (hr:Region.ready md ops listed=[i]) (hik:(i == k)=false) (ho:ops[i]?=some o)
 (h:∀ K':Act→World→Prop,Shut (∀ a w,S w→(S w→Qdr P md ops Q S k fuel (listed.setIfInBounds i true) a w)→K' a w)→if Region.wanted o (yielded ops a.tmps)=true then Oper.wp P o a w K' Q else K' (a.put o.dst undef) w) :
 Qdr P md ops Q S k (fuel+1) listed a w:=by
 refine ⟨fun h0=>(by rw [hr] at h0;cases h0),fun j hj=>?_⟩;rw [hr] at hj;obtain rfl:j=i:=by simpa using hj
 refine wpOp_step ho (fun K' hK=>h K' (fun a w hS hW=>hK a w ?_));rw [if_neg (by simpa using hik)];exact ⟨hS,hW hS⟩
theorem Qbv {listed:Array Bool}{a:Act}{w:World} (hr:Region.ready md ops listed=[]) (h:Q .normal a w):∀ fuel,wpAny P md ops Q fuel listed a w
 | 0=>⟨hr,h⟩
 | _+1=>⟨fun _=>h,by rw [hr];simp⟩
theorem Qbk (k:Nat){id:Nat}{a:Act}{w:World}(hm:P.follows .mixedOrders=true)(hS:S w.drew)
 (h:S w.drew→Qdr P .any ops Q S k ops.size (Array.replicate ops.size false) a w.drew):(Code.region id ops true).wp P Q a w :=
 wp_region_any hm (Qqz _ _ _ _ (h hS))
end
def hAh (x y:Int)(a b:Nat):Bool:=if x≠y then decide (x<y) else decide (a<b)
theorem hAh_t {x y:Int}{a b:Nat}(h:hAh x y a b=true):x≤y:=by unfold hAh at h;by_cases e:x=y;{omega};{rw [if_pos e] at h;have:=of_decide_eq_true h;omega}
theorem hAh_f {x y:Int}{a b:Nat}(h:hAh x y a b=false):y≤x:=by unfold hAh at h;by_cases e:x=y;{omega};{rw [if_pos e] at h;have:=of_decide_eq_false h;omega}
section
variable {G:Nat→Prop} {g gc gs gr n m c:Nat} {R:List Nat} {C:Iz} {S:List Nat}
theorem Qqj (w:World) (h:Qbh w G g (some ⟨gr,0,none⟩) gc gs n m c R C S) {i j a b:Nat} {x y:Int} (hi:R[i]?=some a) (hj:R[j]?=some b) (hx:C[a]?=some x) (hy:C[b]?=some y) (hn:b<n) :
 Calls prog 221 #[.pointer (some ⟨g,0,none⟩),.int .i64 i,.int .i64 j] w fun e w'=>e=.returned (.bool (hAh x y a b))∧Bw w w':=by
 obtain ⟨hm,hcc⟩:=h.cap;have hn0:=h.n0;have hia:=(Zs hi).1;have hjb:=(Zs hj).1;have hxa:=(Zs hx).1;have hlr:=h.lr;have hlc:=h.lc;have HS:=Zh (show ∀ V,Bw w V→Qbh V G g (some ⟨gr,0,none⟩) gc gs n m c R C S from fun V hV=>h.keep hV);have i1:0≤(i:Int):=Oo
 have i2:(i:Int)<m:=Oo
 have i3:0≤(j:Int):=Oo
 have i4:(j:Int)<m:=Oo
 have i5:0≤(a:Int):=Oo
 have i6:(a:Int)<n:=Oo
 have i7:0≤(b:Int):=Oo
 have i8:(b:Int)<n:=Oo
 have HSX:=Zh (show ∀ V,Bw w V→V.cell? ⟨g,0,none⟩=some (.slice (some ⟨gr,0,none⟩) m c)∧V.cell? ⟨g,1,none⟩=some (.slice (some ⟨gc,0,none⟩) n n)∧V.cell? ⟨gr,i,none⟩=some (.int .i64 a)∧V.cell? ⟨gr,j,none⟩=some (.int .i64 b)∧V.cell? ⟨gc,a,none⟩=some (.int .i64 x)∧V.cell? ⟨gc,b,none⟩=some (.int .i64 y) from
  fun V hV=>⟨(h.keep hV).f0,(h.keep hV).f1,(h.keep hV).rowAt hi,(h.keep hV).rowAt hj,(h.keep hV).costAt hx,(h.keep hV).costAt hy⟩)
 have f0:=h.f0;have f1:=h.f1;have r1:=h.rowAt hi;have r2:=h.rowAt hj;have q1:=h.costAt hx;have q2:=h.costAt hy;clear h hi hj hx hy HS;go_enter func221,ntmps221
 go_wp2_with fail
 refine wp_region_held_drew (S:=fun V=>Bw w V) Kf (Zr _ _).drew (fun _=>?_);refine tzd 0 9 ?_;refine tzd 4 13 ?_;refine tzd 8 17 ?_;refine tzb 12 21 ?_;refine tzb 14 7 ?_;refine Zd ?_;go_wp2_with fail
 refine wp_region_held_drew (S:=fun V=>Bw w V) Kf (Zr _ _).drew.drew (fun _=>?_);refine tzd 0 23 ?_;refine tzd 4 27 ?_;refine tzd 8 31 ?_;refine tzb 12 35 ?_;refine tz 14 37 ?_;refine Zd ?_;by_cases hxy:x=y;{(have e1:(x == y)=true:=by simp [hxy]);(go_wp2_with fail);go_ret;exact ⟨Qao (by simp [hAh,hxy]),Qag⟩};{(have e1:(x == y)=false:=by simp [hxy]);(go_wp2_with fail);refine wp_region_held_drew (S:=fun V=>Bw w V) Kf (Zr _ _).drew.drew.drew (fun _=>?_);refine tzd 0 38 ?_;refine tzd 4 42 ?_;refine tzd 8 46 ?_;refine tzb 12 50 ?_;refine tz 14 52 ?_;refine tz 15 6 ?_;refine Zd ?_;(go_wp2_with fail);go_ret;exact ⟨Qao (by simp [hAh,hxy]),Qag⟩}
theorem Qnu (w:World) (h:Qbh w G g (some ⟨gr,0,none⟩) gc gs n m c R C S) {i j a b:Nat} (hi:R[i]?=some a) (hj:R[j]?=some b) (ha:a<n) (hb:b<n) :
 Calls prog 192 #[.pointer (some ⟨g,0,none⟩),.int .i64 i,.int .i64 j] w fun e w'=>e=.returned (.tuple #[])∧Qbh w' G g (some ⟨gr,0,none⟩) gc gs n m c (Qep R i j) C (Qmj R S i j)∧Aft G w w':=by
 have hm:=h.cap.1;have hcc:=h.cap.2;have hn0:=h.n0;have hia:=(Zs hi).1;have hjb:=(Zs hj).1;have hlr:=h.lr;have hls:=h.ls;have i1:0≤(i:Int):=Oo
 have i2:(i:Int)<m:=Oo
 have i3:0≤(j:Int):=Oo
 have i4:(j:Int)<m:=Oo
 have i5:0≤(a:Int):=Oo
 have i6:(a:Int)<n:=Oo
 have i7:0≤(b:Int):=Oo
 have i8:(b:Int)<n:=Oo
 have f0:=h.f0;have f2:=h.f2;have r1:=h.rowAt hi;have r2:=h.rowAt hj;have z1:w.frozen? ⟨gr,i,none⟩=false:=h.fzR;have z2:w.frozen? ⟨gr,j,none⟩=false:=h.fzR;have hR1:Qep R i j=(R.set i b).set j a:=by unfold Qep;rw [Qct hi,Qct hj]
 have hS1:Qmj R S i j=(S.set b (i+1)).set a (j+1):=by unfold Qmj;rw [Qct hi,Qct hj]
 have hw1:=h.setR (i:=i) (k:=b);have g1:(R.set i b)[j]?=some b:=by{rw [List.getElem?_set];by_cases e:i=j;{subst e;simp [hia]};{rw [if_neg e];exact hj}};have r3:=hw1.rowAt g1;have hw2:=hw1.setR (i:=j) (k:=a);have g2:((R.set i b).set j a)[i]?=some b:=by{rw [List.getElem?_set];by_cases e:j=i;{subst e;rw [hi] at hj;cases hj;simp [hia]};{rw [if_neg e];simp [hia]}};have g3:((R.set i b).set j a)[j]?=some a:=by simp [hjb]
 have HW2:=Zh hw2;have HF:=Zh ((h.dA gr rfl).2.2.2);clear h hw1 hw2;go_enter func192,ntmps192
 go_wp2_with fail
 refine Qbk 25 (S:=fun V=>V.cell? ⟨g,0,none⟩=some (.slice (some ⟨gr,0,none⟩) m c)∧V.cell? ⟨gr,i,none⟩=some (.int .i64 a)∧V.cell? ⟨gr,j,none⟩=some (.int .i64 b)) Kf ⟨f0,r1,r2⟩ (fun _=>?_);refine tkF 0 6 (h:=⟨_,tv,?_⟩);simp only [pE,List.set];refine tkF 1 7 (h:=⟨_,tv,?_⟩);simp only [pE,List.set];refine tkF 2 8 (h:=⟨_,tv,?_⟩);simp only [pE,List.set];refine tkK 3 9 (h:=⟨_,tv,?_⟩);simp only [pE,List.set];refine tkF 4 10 (h:=⟨_,tv,?_⟩);simp only [pE,List.set];refine tkF 5 11 (h:=⟨_,tv,?_⟩);simp only [pE,List.set];refine tkF 6 12 (h:=⟨_,tv,?_⟩);simp only [pE,List.set];refine tkF 7 13 (h:=⟨_,tv,?_⟩);simp only [pE,List.set];refine tkK 8 14 (h:=⟨_,tv,?_⟩);simp only [pE,List.set];refine tkF 9 15 (h:=⟨_,tv,?_⟩);simp only [pE,List.set];refine tkF 10 16 (h:=⟨_,tv,?_⟩);simp only [pE,List.set];refine tkF 11 17 (h:=⟨_,tv,?_⟩);simp only [pE,List.set];refine tkF 12 18 (h:=⟨_,tv,?_⟩);simp only [pE,List.set];refine tkK 13 19 (h:=⟨_,tv,?_⟩);simp only [pE,List.set];refine tkF 14 20 (h:=⟨_,tv,?_⟩);simp only [pE,List.set];refine tkF 15 21 (h:=⟨_,tv,?_⟩);simp only [pE,List.set];refine tkK 16 22 (h:=⟨_,tv,?_⟩);simp only [pE,List.set];refine tkF 17 23 (h:=⟨_,tv,?_⟩);simp only [pE,List.set];refine tkF 18 24 (h:=⟨_,tv,?_⟩);simp only [pE,List.set];refine tkF 19 25 (h:=⟨_,tv,?_⟩);simp only [pE,List.set];refine tkK 20 26 (h:=⟨_,tv,?_⟩);simp only [pE,List.set];refine tkF 21 27 (h:=⟨_,tv,?_⟩);simp only [pE,List.set];refine tkF 22 28 (h:=⟨_,tv,?_⟩);simp only [pE,List.set];refine tkK 23 29 (h:=⟨_,tv,?_⟩);simp only [pE,List.set];refine tkF 24 30 (h:=⟨_,tv,?_⟩);simp only [pE,List.set];refine Qcb (k:=25) Kf rfl (fun K hK=>?_);go_simp;refine hK.out _ _ ?_;clear hK K;refine wpAny_of_held (S:=fun _=>True) _ _ _ _ ?_;refine tz 26 31 ?_;refine Zk 27 (fun K hK=>?_);go_simp;refine hK.out _ _ trivial (fun _=>?_);clear hK K;refine Zd ?_;obtain ⟨W2,hW2⟩:=Zx (((w.setCell ⟨gr,i,none⟩ (.int .i64 b)).setCell ⟨gr,j,none⟩ (.int .i64 a)).drew);have hh2:Qbh W2 G g (some ⟨gr,0,none⟩) gc gs n m c ((R.set i b).set j a) C S:=by rw [hW2];exact HW2.o.drew
 have ha2:Aft G w W2:=by rw [hW2];exact (((Aft.refl G w).set HF.o _).set HF.o _).drew
 have t0:W2.cell? ⟨g,0,none⟩=some (.slice (some ⟨gr,0,none⟩) m c):=hh2.f0;have t2:W2.cell? ⟨g,2,none⟩=some (.slice (some ⟨gs,0,none⟩) n n):=hh2.f2;have u1:=hh2.rowAt g2;have hw3:=hh2.setS (i:=b) (k:=i+1);have hw4:=hw3.drew.setS (i:=a) (k:=j+1);have p0:=hw3.drew.f0;have p2:=hw3.drew.f2;have q1:=hw3.drew.rowAt g3;have HW4:=Zh hw4;have HG:=Zh hh2.dG.2.2;have HA:=Zh ha2;have e2:((i+1:Nat):Int)=(i:Int)+1:=Oo
 have e3:((j+1:Nat):Int)=(j:Int)+1:=Oo
 have y1:W2.frozen? ⟨gs,b,none⟩=false:=hh2.ss.frozen b;have y2:W2.frozen? ⟨gs,a,none⟩=false:=hh2.ss.frozen a;have x1:∃ v,W2.cell? ⟨gs,b,none⟩=some v:=⟨_,hh2.seatAt (Qbo 0 Oo)⟩;have x2:∃ v,(W2.setCell ⟨gs,b,none⟩ (.int .i64 ((i+1:Nat):Int))).drew.cell? ⟨gs,a,none⟩=some v:=⟨_,hw3.drew.seatAt (Qbo 0 (by rw [Yq];omega))⟩;obtain ⟨v1,x1⟩:=x1;obtain ⟨v2,x2⟩:=x2;rw [e2] at x2 p0 p2 q1;rw [←hW2];clear HW2 hW2 hh2 ha2 hw3 hw4 r1 r2 r3 f0 f2 z1 z2;go_wp2_with fail
 refine Qbk 14 (S:=fun V=>V.cell? ⟨g,0,none⟩=some (.slice (some ⟨gr,0,none⟩) m c)∧V.cell? ⟨g,2,none⟩=some (.slice (some ⟨gs,0,none⟩) n n)∧V.cell? ⟨gr,i,none⟩=some (.int .i64 b)) Kf ⟨t0,t2,u1⟩ (fun _=>?_);refine tkF 0 32 (h:=⟨_,tv,?_⟩);simp only [pE,List.set];refine tkF 1 33 (h:=⟨_,tv,?_⟩);simp only [pE,List.set];refine tkF 2 34 (h:=⟨_,tv,?_⟩);simp only [pE,List.set];refine tkK 3 35 (h:=⟨_,tv,?_⟩);simp only [pE,List.set];refine tkF 4 36 (h:=⟨_,tv,?_⟩);simp only [pE,List.set];refine tkF 5 37 (h:=⟨_,tv,?_⟩);simp only [pE,List.set];refine tkF 6 38 (h:=⟨_,tv,?_⟩);simp only [pE,List.set];refine tkK 7 39 (h:=⟨_,tv,?_⟩);simp only [pE,List.set];refine tkF 8 40 (h:=⟨_,tv,?_⟩);simp only [pE,List.set];refine tkF 9 41 (h:=⟨_,tv,?_⟩);simp only [pE,List.set];refine tkK 10 42 (h:=⟨_,tv,?_⟩);simp only [pE,List.set];refine tkF 11 43 (h:=⟨_,tv,?_⟩);simp only [pE,List.set];refine tkF 12 44 (h:=⟨_,tv,?_⟩);simp only [pE,List.set];refine tkF 13 45 (h:=⟨_,tv,?_⟩);simp only [pE,List.set];refine Qcb (k:=14) Kf rfl (fun K hK=>?_);go_simp;refine hK.out _ _ ?_;clear hK K;refine Qbv Kf ?_ _;have e4:IntKind.i64.wrap ((i:Int)+1)=(i:Int)+1:=IntWalk.i64_in _ Oo;have e5:IntKind.i64.wrap ((j:Int)+1)=(j:Int)+1:=IntWalk.i64_in _ Oo;rw [e4];obtain ⟨W3,hW3⟩:=Zx ((W2.setCell ⟨gs,b,none⟩ (.int .i64 ((i:Int)+1))).drew);have y3:W3.frozen? ⟨gs,a,none⟩=false:=by rw [hW3];rw [e2] at HW4;exact (HW4.o.ss.frozen a).symm.trans Sm |>.symm.trans Sm
 rw [←hW3] at x2 p0 p2 q1;rw [e2,←hW3] at HW4;have HA3:=Zh (show Aft G w W3 by rw [hW3];exact (HA.o.set HG.o _).drew);rw [←hW3];clear hW3 HA t0 t2 u1 x1 y1 y2;go_wp2_with fail
 refine Qbk 14 (S:=fun V=>V.cell? ⟨g,0,none⟩=some (.slice (some ⟨gr,0,none⟩) m c)∧V.cell? ⟨g,2,none⟩=some (.slice (some ⟨gs,0,none⟩) n n)∧V.cell? ⟨gr,j,none⟩=some (.int .i64 a)) Kf ⟨p0,p2,q1⟩ (fun _=>?_);refine tkF 0 46 (h:=⟨_,tv,?_⟩);simp only [pE,List.set];refine tkF 1 47 (h:=⟨_,tv,?_⟩);simp only [pE,List.set];refine tkF 2 48 (h:=⟨_,tv,?_⟩);simp only [pE,List.set];refine tkK 3 49 (h:=⟨_,tv,?_⟩);simp only [pE,List.set];refine tkF 4 50 (h:=⟨_,tv,?_⟩);simp only [pE,List.set];refine tkF 5 51 (h:=⟨_,tv,?_⟩);simp only [pE,List.set];refine tkF 6 52 (h:=⟨_,tv,?_⟩);simp only [pE,List.set];refine tkK 7 53 (h:=⟨_,tv,?_⟩);simp only [pE,List.set];refine tkF 8 54 (h:=⟨_,tv,?_⟩);simp only [pE,List.set];refine tkF 9 55 (h:=⟨_,tv,?_⟩);simp only [pE,List.set];refine tkK 10 56 (h:=⟨_,tv,?_⟩);simp only [pE,List.set];refine tkF 11 57 (h:=⟨_,tv,?_⟩);simp only [pE,List.set];refine tkF 12 58 (h:=⟨_,tv,?_⟩);simp only [pE,List.set];refine tkF 13 59 (h:=⟨_,tv,?_⟩);simp only [pE,List.set];refine Qcb (k:=14) Kf rfl (fun K hK=>?_);go_simp;refine hK.out _ _ ?_;clear hK K;refine Qbv Kf ?_ _;go_wp2_with fail
 go_end0;refine ⟨rfl,?_,(HA3.o.set HG.o _).drew⟩;rw [hR1,hS1,←e3];exact HW4.o.drew
end
