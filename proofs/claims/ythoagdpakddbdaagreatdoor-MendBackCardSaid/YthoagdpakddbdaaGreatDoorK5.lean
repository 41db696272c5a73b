/- Parts of the proof: Ga, GaW, Cl, ClI, Hp, Hw, Ks. -/
import Derived.Test.YthoagdpakddbdaaGreatDoorK1
import Derived.Test.YthoagdpakddbdaaGreatDoorK2
import Derived.Test.YthoagdpakddbdaaGreatDoorK4
import Derived.Lib.SliceRun
namespace Go.Proofs.YthoagdpakddbdaaGreatDoor
open Go.RowKit Go.Proofs.Tryz
attribute [local go_sem ↓] Go.wp_at_zero Go.wp_at_succ
theorem Qas.arLe {N:Qaj}(h:Qas N){m:Nat}(e:N.ar.length=m):m≤16384:=by rw [←e];exact h.la
theorem Qhw (g:Nat)(N:Qaj)(w:World)(h:Qgk w g N):Calls prog 51 #[.pointer (some ⟨g,0,none⟩)] w fun e w'=>e=.returned (.int .i64 (N.vs.length:Int))∧w=w':=by
 obtain ⟨A,B,C,I,O,P,n,m,k,c,d,e,ci,co,cp,h⟩:=h;have h0:=h.n0;have HL:=Zh h.net.1.1;clear h
 go_enter func51,ntmps51
 go_wp2
 go_ret
 exact ⟨Qbs (by rw [HL.out]),rfl⟩
theorem Qgu (g:Nat)(N:Qaj)(w:World)(h:Qgk w g N):Calls prog 52 #[.pointer (some ⟨g,0,none⟩)] w fun e w'=>e=.returned (.int .i64 (N.ar.length:Int))∧w=w':=by
 obtain ⟨A,B,C,I,O,P,n,m,k,c,d,e,ci,co,cp,h⟩:=h;have h1:=h.n1;have HL:=Zh h.net.2.1.1;clear h
 go_enter func52,ntmps52
 go_wp2
 go_ret
 exact ⟨Qbs (by rw [HL.out]),rfl⟩
theorem Qhs (g:Nat)(N:Qaj)(a:Int)(w:World)(h:Qgk w g N)(h0:0≤a)(h1:a<N.ar.length):Calls prog 70 #[.pointer (some ⟨g,0,none⟩),.int .i64 a] w fun e w'=>e=.returned (.bool true)∧w=w':=by
 obtain ⟨A,B,C,I,O,P,n,m,k,c,d,e,ci,co,cp,h⟩:=h;have hn1:=h.n1;have hl:=h.net.2.1.1;rw [hl] at h1;clear hl h
 go_enter func70,ntmps70
 go_wp2
 go_ret
 exact ⟨Qbb (by first|(simp;done)|(simp;omega)),rfl⟩
theorem Qgz (g a:Nat)(N:Qaj)(x:Tri)(w:World)(h:Qgk w g N) (hx:N.ar[a]?=some x):Calls prog 56 #[.pointer (some ⟨g,0,none⟩),.int .i64 a] w fun e w'=>e=.returned (.int .i64 x.1)∧w=w':=by
 have HA:=Zh (show ∀ V,V=w→Calls prog 70 #[.pointer (some ⟨g,0,none⟩),.int .i64 a] V fun e w'=>e=.returned (.bool true)∧V=w' from fun V e=>e▸Qhs g N a w h (by omega) (by have:=(Zs hx).1;omega))
 obtain ⟨A,B,C,I,O,P,n,m,k,c,d,e,ci,co,cp,h⟩:=h;have hn1:=h.n1;have ha:a<m:=by have:=(Zs hx).1;rw [h.net.2.1.1] at this;exact this
 have hm:=h.ok.arLe h.net.2.1.1;obtain ⟨b,o,x',y',z',rfl,hx',cx,cy,cz⟩:=h.net.2.1.at_ ha;rw [hx] at hx'
 cases hx'
 have i1:(0:Int)≤(a:Int):=by omega
 have i2:(a:Int)<(m:Int):=by omega
 clear hx h
 go_enter func56,ntmps56
 go_wp2_with fail
 with_reducible refine (HA.out _ rfl).mono ?_
 rintro e w' ⟨rfl,rfl⟩
 go_wp2
 go_ret
 exact ⟨rfl,rfl⟩
theorem Qkp (g a:Nat)(N:Qaj)(x:Tri)(w:World)(h:Qgk w g N) (hx:N.ar[a]?=some x):Calls prog 57 #[.pointer (some ⟨g,0,none⟩),.int .i64 a] w fun e w'=>e=.returned (.int .i64 x.2.1)∧w=w':=by
 have HA:=Zh (show ∀ V,V=w→Calls prog 70 #[.pointer (some ⟨g,0,none⟩),.int .i64 a] V fun e w'=>e=.returned (.bool true)∧V=w' from fun V e=>e▸Qhs g N a w h (by omega) (by have:=(Zs hx).1;omega))
 obtain ⟨A,B,C,I,O,P,n,m,k,c,d,e,ci,co,cp,h⟩:=h;have hn1:=h.n1;have ha:a<m:=by have:=(Zs hx).1;rw [h.net.2.1.1] at this;exact this
 have hm:=h.ok.arLe h.net.2.1.1;obtain ⟨b,o,x',y',z',rfl,hx',cx,cy,cz⟩:=h.net.2.1.at_ ha;rw [hx] at hx'
 cases hx'
 have i1:(0:Int)≤(a:Int):=by omega
 have i2:(a:Int)<(m:Int):=by omega
 clear hx h
 go_enter func57,ntmps57
 go_wp2_with fail
 with_reducible refine (HA.out _ rfl).mono ?_
 rintro e w' ⟨rfl,rfl⟩
 go_wp2
 go_ret
 exact ⟨rfl,rfl⟩
theorem Qeh (g a:Nat)(N:Qaj)(x:Tri)(w:World)(h:Qgk w g N) (hx:N.ar[a]?=some x):Calls prog 32 #[.pointer (some ⟨g,0,none⟩),.int .i64 a] w fun e w'=>e=.returned (.int .i64 x.2.2)∧w=w':=by
 have HA:=Zh (show ∀ V,V=w→Calls prog 70 #[.pointer (some ⟨g,0,none⟩),.int .i64 a] V fun e w'=>e=.returned (.bool true)∧V=w' from fun V e=>e▸Qhs g N a w h (by omega) (by have:=(Zs hx).1;omega))
 obtain ⟨A,B,C,I,O,P,n,m,k,c,d,e,ci,co,cp,h⟩:=h;have hn1:=h.n1;have ha:a<m:=by have:=(Zs hx).1;rw [h.net.2.1.1] at this;exact this
 have hm:=h.ok.arLe h.net.2.1.1;obtain ⟨b,o,x',y',z',rfl,hx',cx,cy,cz⟩:=h.net.2.1.at_ ha;rw [hx] at hx'
 cases hx'
 have i1:(0:Int)≤(a:Int):=by omega
 have i2:(a:Int)<(m:Int):=by omega
 clear hx h
 go_enter func32,ntmps32
 go_wp2_with fail
 with_reducible refine (HA.out _ rfl).mono ?_
 rintro e w' ⟨rfl,rfl⟩
 go_wp2
 go_ret
 exact ⟨rfl,rfl⟩
theorem infoClI:(Tryz.prog.info? 3).map (fun i=>(i.zero,i.size,i.bytes))=some (some (.int .i64 0),1,8):=by kernel_rfl
theorem infoClL:(Tryz.prog.info? 2).map (fun i=>(i.zero,i.size,i.bytes))=some (some (.int .i64 0),1,8):=by kernel_rfl
set_option maxHeartbeats 1000000 in
theorem Qkr (A:Option Addr)(n c:Nat)(xs:List Value)(w:World)(h:Rds w 1 A n xs)(h1:∀ u∈xs,u.oneCell'=true)(hn:n≤1000000000) :
 Calls prog 125 #[.slice A n c] w fun e w'=>∃ A' c',e=.returned (.slice A' n c')∧Own w' w.heap.size 2 1 A' n c' xs∧Below w.heap.size w w':=by
 have q22:∀ (w:World) (a:Option Addr) (n c n' c':Nat),(binOp .eql 30 (.slice a n c) (.slice none n' c')).run prog w=.ok (.bool a.isNone) w:=fun w a n c n' c'=>Lib.run_eql_slice_nil w _ _ a n c n' c' underlying30
 cases A with
 | none =>
  have hl:xs=[]:=by
   cases hl:xs with
   | nil=>rfl
   | cons p t =>
    obtain ⟨b,o,e,_⟩:=h.2 0 p (by rw [hl];rfl)
    cases e
  subst hl;have h0:n=0:=by have:=h.1;simp at this;omega
  subst h0
  go_enter func125,ntmps125
  go_wp2
  go_ret
  exact ⟨none,0,rfl,Own.nil _ _ _ _,Qae⟩
 | some a =>
  have hb1:∀ o,Below w.heap.size w (w.alloc o):=fun o=>(Zr _ _).alloc (Zn _) o
  have hown0:Own (w.alloc (.cells #[] 2)) w.heap.size 2 1 (some ⟨w.heap.size,0,none⟩) 0 0 []:=Own.lit w #[] 0 (Zn _) (by omega) rfl
  go_enter func125,ntmps125
  go_wp2_with (at_builtin;with_reducible refine Qat rfl (.tmp 5) (.tmp 6) 30 rfl 2 _ 1 8 infoClL underlying30 rfl (by omega) (B:=w.heap.size) rfl rfl hown0 (h.below (hb1 _)) h1 (by omega) (by omega) (by simp) ?_)
  intro A' c' w' hown hg _;have hb2:Below w.heap.size w w':=Bel.grownOwn (hb1 _) hg hown0 (by simp)
  try simp only [Nat.zero_add,List.nil_append] at hown
  have HO:=Zh hown;clear hown hg
  go_wp2
  go_ret
  exact ⟨_,_,rfl,HO.out,hb2⟩
theorem infoClV:(Tryz.prog.info? 144).map (fun i=>(i.zero,i.size,i.bytes))=some (some (.agg #[.int .i64 0,.int .i64 0,.int .i64 0]),3,24):=by kernel_rfl
set_option maxHeartbeats 1000000 in
theorem Qsd (A:Option Addr)(n c:Nat)(xs:List Value)(w:World)(h:Rds w 3 A n xs)(h1:∀ u∈xs,u.oneCell'=true)(hn:n≤1000000000) :
 Calls prog 126 #[.slice A n c] w fun e w'=>∃ A' c',e=.returned (.slice A' n c')∧Own w' w.heap.size 144 3 A' n c' xs∧Below w.heap.size w w':=by
 have q22:∀ (w:World) (a:Option Addr) (n c n' c':Nat),(binOp .eql 116 (.slice a n c) (.slice none n' c')).run prog w=.ok (.bool a.isNone) w:=fun w a n c n' c'=>Lib.run_eql_slice_nil w _ _ a n c n' c' underlying116
 cases A with
 | none =>
  have hl:xs=[]:=by
   cases hl:xs with
   | nil=>rfl
   | cons p t =>
    obtain ⟨b,o,e,_⟩:=h.2 0 p (by rw [hl];rfl)
    cases e
  subst hl;have h0:n=0:=by have:=h.1;simp at this;omega
  subst h0
  go_enter func126,ntmps126
  go_wp2
  go_ret
  exact ⟨none,0,rfl,Own.nil _ _ _ _,Qae⟩
 | some a =>
  have hb1:∀ o,Below w.heap.size w (w.alloc o):=fun o=>(Zr _ _).alloc (Zn _) o
  have hown0:Own (w.alloc (.cells #[] 144)) w.heap.size 144 3 (some ⟨w.heap.size,0,none⟩) 0 0 []:=Own.lit w #[] 0 (Zn _) (by omega) rfl
  go_enter func126,ntmps126
  go_wp2_with (at_builtin;with_reducible refine Qat rfl (.tmp 5) (.tmp 6) 116 rfl 144 _ 3 24 infoClV underlying116 rfl (by omega) (B:=w.heap.size) rfl rfl hown0 (h.below (hb1 _)) h1 (by omega) (by omega) (by simp) ?_)
  intro A' c' w' hown hg _;have hb2:Below w.heap.size w w':=Bel.grownOwn (hb1 _) hg hown0 (by simp)
  try simp only [Nat.zero_add,List.nil_append] at hown
  have HO:=Zh hown;clear hown hg
  go_wp2
  go_ret
  exact ⟨_,_,rfl,HO.out,hb2⟩
theorem infoClA:(Tryz.prog.info? 146).map (fun i=>(i.zero,i.size,i.bytes))=some (some (.agg #[.int .i64 0,.int .i64 0,.int .i64 0]),3,24):=by kernel_rfl
set_option maxHeartbeats 1000000 in
theorem Qsg (A:Option Addr)(n c:Nat)(xs:List Value)(w:World)(h:Rds w 3 A n xs)(h1:∀ u∈xs,u.oneCell'=true)(hn:n≤1000000000) :
 Calls prog 127 #[.slice A n c] w fun e w'=>∃ A' c',e=.returned (.slice A' n c')∧Own w' w.heap.size 146 3 A' n c' xs∧Below w.heap.size w w':=by
 have q22:∀ (w:World) (a:Option Addr) (n c n' c':Nat),(binOp .eql 117 (.slice a n c) (.slice none n' c')).run prog w=.ok (.bool a.isNone) w:=fun w a n c n' c'=>Lib.run_eql_slice_nil w _ _ a n c n' c' underlying117
 cases A with
 | none =>
  have hl:xs=[]:=by
   cases hl:xs with
   | nil=>rfl
   | cons p t =>
    obtain ⟨b,o,e,_⟩:=h.2 0 p (by rw [hl];rfl)
    cases e
  subst hl;have h0:n=0:=by have:=h.1;simp at this;omega
  subst h0
  go_enter func127,ntmps127
  go_wp2
  go_ret
  exact ⟨none,0,rfl,Own.nil _ _ _ _,Qae⟩
 | some a =>
  have hb1:∀ o,Below w.heap.size w (w.alloc o):=fun o=>(Zr _ _).alloc (Zn _) o
  have hown0:Own (w.alloc (.cells #[] 146)) w.heap.size 146 3 (some ⟨w.heap.size,0,none⟩) 0 0 []:=Own.lit w #[] 0 (Zn _) (by omega) rfl
  go_enter func127,ntmps127
  go_wp2_with (at_builtin;with_reducible refine Qat rfl (.tmp 5) (.tmp 6) 117 rfl 146 _ 3 24 infoClA underlying117 rfl (by omega) (B:=w.heap.size) rfl rfl hown0 (h.below (hb1 _)) h1 (by omega) (by omega) (by simp) ?_)
  intro A' c' w' hown hg _;have hb2:Below w.heap.size w w':=Bel.grownOwn (hb1 _) hg hown0 (by simp)
  try simp only [Nat.zero_add,List.nil_append] at hown
  have HO:=Zh hown;clear hown hg
  go_wp2
  go_ret
  exact ⟨_,_,rfl,HO.out,hb2⟩
set_option maxHeartbeats 1000000 in
theorem Qla (A:Option Addr)(n c:Nat)(xs:List Value)(w:World)(h:Rds w 1 A n xs)(h1:∀ u∈xs,u.oneCell'=true)(hn:n≤1000000000) :
 Calls prog 128 #[.slice A n c] w fun e w'=>∃ A' c',e=.returned (.slice A' n c')∧Own w' w.heap.size 3 1 A' n c' xs∧Below w.heap.size w w':=by
 have q22:∀ (w:World) (a:Option Addr) (n c n' c':Nat),(binOp .eql 93 (.slice a n c) (.slice none n' c')).run prog w=.ok (.bool a.isNone) w:=fun w a n c n' c'=>Lib.run_eql_slice_nil w _ _ a n c n' c' underlying93
 cases A with
 | none =>
  have hl:xs=[]:=by
   cases hl:xs with
   | nil=>rfl
   | cons p t =>
    obtain ⟨b,o,e,_⟩:=h.2 0 p (by rw [hl];rfl)
    cases e
  subst hl;have h0:n=0:=by have:=h.1;simp at this;omega
  subst h0
  go_enter func128,ntmps128
  go_wp2
  go_ret
  exact ⟨none,0,rfl,Own.nil _ _ _ _,Qae⟩
 | some a =>
  have hb1:∀ o,Below w.heap.size w (w.alloc o):=fun o=>(Zr _ _).alloc (Zn _) o
  have hown0:Own (w.alloc (.cells #[] 3)) w.heap.size 3 1 (some ⟨w.heap.size,0,none⟩) 0 0 []:=Own.lit w #[] 0 (Zn _) (by omega) rfl
  go_enter func128,ntmps128
  go_wp2_with (at_builtin;with_reducible refine Qat rfl (.tmp 5) (.tmp 6) 93 rfl 3 _ 1 8 infoClI underlying93 rfl (by omega) (B:=w.heap.size) rfl rfl hown0 (h.below (hb1 _)) h1 (by omega) (by omega) (by simp) ?_)
  intro A' c' w' hown hg _;have hb2:Below w.heap.size w w':=Bel.grownOwn (hb1 _) hg hown0 (by simp)
  try simp only [Nat.zero_add,List.nil_append] at hown
  have HO:=Zh hown;clear hown hg
  go_wp2
  go_ret
  exact ⟨_,_,rfl,HO.out,hb2⟩
end Go.Proofs.YthoagdpakddbdaaGreatDoor
namespace Go.Proofs.YthoagdpakddbdaaGreatDoor
/-! A binary heap, by the costs at its places; plain. -/
def Ord (c:Nat→Int)(len:Nat):Prop:=∀ i,0<i→i<len→c ((i-1) / 2)≤c i
structure UpO (c:Nat→Int) (len p:Nat):Prop where
 o:∀ i,0<i→i<len→i≠p→c ((i-1) / 2)≤c i
 g:∀ i,0<i→i<len→(i-1) / 2=p→0<p→c ((p-1) / 2)≤c i
structure Qhh (c:Nat→Int) (len p:Nat):Prop where
 o:∀ i,0<i→i<len→(i-1) / 2≠p→c ((i-1) / 2)≤c i
 g:∀ i,0<i→i<len→(i-1) / 2=p→0<p→c ((p-1) / 2)≤c i
def Qke (c:Nat→Int)(i j:Nat):Nat→Int:=fun x=>if x=i then c j else if x=j then c i else c x
theorem Qgh (c:Nat→Int)(i j:Nat):Qke c i j i=c j:=by simp [Qke]
theorem Qpn (c:Nat→Int)(i j:Nat):Qke c i j j=c i:=by
 unfold Qke
 by_cases h:j=i
 · simp [h]
 · simp [h]
theorem Qfb (c:Nat→Int){i j x:Nat}(h:x≠i)(h':x≠j):Qke c i j x=c x:=by simp [Qke,h,h']
theorem UpO.done {c:Nat→Int}{len p:Nat}(h:UpO c len p) (hp:p=0∨c ((p-1) / 2)≤c p):Ord c len:=fun i h0 hl=>by
 by_cases e:i=p
 · subst e
   rcases hp with hp|hp
   · omega
   · exact hp
 · exact h.o i h0 hl e
theorem UpO.step {c:Nat→Int}{len p:Nat}(h:UpO c len p)(h0:0<p)(hl:p<len) (hc:c p≤c ((p-1) / 2)):UpO (Qke c p ((p-1) / 2)) len ((p-1) / 2):=by
 have hq:(p-1) / 2<p:=by omega
 generalize hqe:(p-1) / 2=q at *;refine ⟨fun i hi hil hne=>?_,fun i hi hil hpi hqp=>?_⟩
 · by_cases e1:i=p
   · subst e1
     rw [hqe,Qpn,Qgh];exact hc
   · rw [Qfb c e1 hne]
     by_cases e2:(i-1) / 2=p
     · rw [e2,Qgh]
       have:=h.g i hi hil e2 h0;rw [hqe] at this;exact this
     · by_cases e3:(i-1) / 2=q
       · rw [e3,Qpn]
         have:=h.o i hi hil e1;rw [e3] at this;omega
       · rw [Qfb c e2 e3]
         exact h.o i hi hil e1
 · have e0:(q-1) / 2≠q:=by omega
   have e0':(q-1) / 2≠p:=by omega
   rw [Qfb c e0' e0];have hgq:=h.o q hqp (by omega) (by omega)
   by_cases e1:i=p
   · subst e1
     rw [Qgh];exact hgq
   · rw [Qfb c e1 (by omega)]
     have:=h.o i hi hil e1;rw [hpi] at this;omega
theorem Qhh.done {c:Nat→Int}{len p:Nat}(h:Qhh c len p) (hp:∀ i,0<i→i<len→(i-1) / 2=p→c p≤c i):Ord c len:=fun i h0 hl=>by
 by_cases e:(i-1) / 2=p
 · rw [e];exact hp i h0 hl e
 · exact h.o i h0 hl e
theorem Qhh.step {c:Nat→Int}{len p m:Nat}(h:Qhh c len p)(h0:0<m)(hl:m<len) (hm:(m-1) / 2=p) (hc:c m≤c p) (ho:∀ i,0<i→i<len→(i-1) / 2=p→c m≤c i):Qhh (Qke c p m) len m:=by
 have hpm:p<m:=by omega
 refine ⟨fun i hi hil hne=>?_,fun i hi hil hpi _=>?_⟩
 · by_cases e1:i=m
   · subst e1
     rw [hm,Qgh,Qpn];exact hc
   · by_cases e2:i=p
     · subst e2
       have e3:(i-1) / 2≠i:=by omega
       rw [Qgh,Qfb c e3 hne];exact h.g m h0 hl hm hi
     · rw [Qfb c e2 e1]
       by_cases e3:(i-1) / 2=p
       · rw [e3,Qgh]
         exact ho i hi hil e3
       · rw [Qfb c e3 hne]
         exact h.o i hi hil e3
 · rw [hm,Qgh,Qfb c (by omega) (by omega)]
   have:=h.o i hi hil (by omega);rw [hpi] at this;exact this
theorem Ord.root {c:Nat→Int}{len:Nat}(h:Ord c len):∀ i,i<len→c 0≤c i:=by
 intro i
 induction i using Nat.strongRecOn with
 | ind i ih =>
  intro hl
  by_cases e:i=0
  · subst e;exact Int.le_refl _
  · have h1:=h i (by omega) hl
    have h2:=ih ((i-1) / 2) (by omega) (by omega);omega
theorem Ord.pop {c c':Nat→Int}{len:Nat} (h:Ord c (len+1)) (hc:∀ i,0<i→i<len→c' i=c i):Qhh c' len 0 :=
 ⟨fun i hi hl hne=>by rw [hc i hi hl,hc _ (by omega) (by omega)];exact h i hi (by omega),fun i hi hl hp h0=>by omega⟩
theorem Ord.push {c c':Nat→Int}{len:Nat}(h:Ord c len)(hc:∀ i,i<len→c' i=c i):UpO c' (len+1) len :=
 ⟨fun i hi hl hne=>by rw [hc i (by omega),hc _ (by omega)];exact h i hi (by omega),fun i hi hl hp h0=>by omega⟩
theorem Ord.lower {c c':Nat→Int}{len p:Nat}(h:Ord c len)(hc:∀ i,i<len→i≠p→c' i=c i)(hp:c' p≤c p)(hl:p<len):UpO c' len p :=
 ⟨fun i hi hil hne=>by
  rw [hc i hil hne]
  by_cases e:(i-1) / 2=p
  · have:=h i hi hil;rw [e] at this ⊢;omega
  · rw [hc _ (by omega) e];exact h i hi hil,fun i hi hil hpi h0=>by
  have h1:=h i hi hil;have h2:=h p h0 hl;rw [hpi] at h1;rw [hc i hil (by omega),hc _ (by omega) (by omega)];omega⟩
structure HpS (n:Nat) (r:List Nat) (cs:List Int) (st:List Nat):Prop where
 lc:cs.length=n
 ls:st.length=n
 seat:∀ i k,r[i]?=some k→k<n∧st[k]?=some (i+1)
 none_:∀ k i,st[k]?=some (i+1)→r[i]?=some k
def at_ (r:List Nat)(cs:List Int)(i:Nat):Int:=cs.getD (r.getD i 0) 0
theorem HpS.nodup {n:Nat}{r:List Nat}{cs:List Int}{st:List Nat}(h:HpS n r cs st){i j k:Nat} (hi:r[i]?=some k) (hj:r[j]?=some k):i=j:=by
 have h1:=(h.seat i k hi).2;have h2:=(h.seat j k hj).2;rw [h1] at h2
 injection h2 with h2
 omega
def Qdl (r:List Nat)(i j:Nat):List Nat:=(r.set i (r.getD j 0)).set j (r.getD i 0)
theorem Qbu {α:Type}{l:List α}{i:Nat}{x d:α} (h:l[i]?=some x):l.getD i d=x:=by rw [List.getD_eq_getElem?_getD,h];rfl
theorem Qbd {α:Type}{l:List α}{i:Nat}(d:α)(h:i<l.length):l[i]?=some (l.getD i d):=by rw [List.getD_eq_getElem?_getD,Zg h];rfl
theorem Qdb {r:List Nat}{i j x:Nat}(hi:i<r.length)(hj:j<r.length):(Qdl r i j)[x]?=if x=j then r[i]? else if x=i then r[j]? else r[x]?:=by
 unfold Qdl
 by_cases e:x=j
 · subst e
   rw [List.getElem?_set_self (by rw [List.length_set];exact hj),if_pos rfl,Qbd 0 hi]
 · rw [if_neg e,List.getElem?_set_ne (fun h=>e h.symm)]
   by_cases e2:x=i
   · subst e2
     rw [List.getElem?_set_self hi,if_pos rfl,Qbd 0 hj]
   · rw [if_neg e2,List.getElem?_set_ne (fun h=>e2 h.symm)]
def Qii (r st:List Nat)(i j:Nat):List Nat:=(st.set (r.getD j 0) (i+1)).set (r.getD i 0) (j+1)
theorem HpS.swap {n:Nat}{r:List Nat}{cs:List Int}{st:List Nat}(h:HpS n r cs st){i j:Nat}(hi:i<r.length)(hj:j<r.length):HpS n (Qdl r i j) cs (Qii r st i j):=by
 have ri:=Qbd 0 hi;have rj:=Qbd 0 hj;generalize hki:r.getD i 0=ki at *;generalize hkj:r.getD j 0=kj at *;have si:=h.seat i ki ri;have sj:=h.seat j kj rj
 have sget:∀ x,(Qii r st i j)[x]?=if x=ki then (if ki<st.length then some (j+1) else none) else if x=kj then (if kj<st.length then some (i+1) else none) else st[x]?:=fun x=>by
  unfold Qii;rw [hki,hkj]
  by_cases e:x=ki
  · subst e
    rw [if_pos rfl,List.getElem?_set];simp
  · rw [if_neg e,List.getElem?_set_ne (fun h=>e h.symm)]
    by_cases e2:x=kj
    · subst e2
      rw [if_pos rfl,List.getElem?_set];simp
    · rw [if_neg e2,List.getElem?_set_ne (fun h=>e2 h.symm)]
 refine ⟨h.lc,by unfold Qii;rw [List.length_set,List.length_set];exact h.ls,fun x k hx=>?_,fun k x hk=>?_⟩
 · rw [Qdb hi hj] at hx
   rw [sget]
   by_cases e:x=j
   · subst e
     rw [if_pos rfl,ri] at hx
     cases hx
     exact ⟨si.1,by rw [if_pos rfl,if_pos (by rw [h.ls];exact si.1)]⟩
   · rw [if_neg e] at hx
     by_cases e2:x=i
     · subst e2
       rw [if_pos rfl,rj] at hx
       cases hx
       have hne:kj≠ki:=fun e3=>e (by rw [e3] at rj;exact h.nodup ri rj)
       exact ⟨sj.1,by rw [if_neg hne,if_pos rfl,if_pos (by rw [h.ls];exact sj.1)]⟩
     · rw [if_neg e2] at hx
       have hs:=h.seat x k hx;exact ⟨hs.1,by rw [if_neg (fun e3=>e2 (by rw [e3] at hx;exact h.nodup hx ri)),if_neg (fun e3=>e (by rw [e3] at hx;exact h.nodup hx rj))];exact hs.2⟩
 · rw [sget] at hk
   rw [Qdb hi hj]
   by_cases e:k=ki
   · subst e
     rw [if_pos rfl,if_pos (by rw [h.ls];exact si.1)] at hk;have:x=j:=by injection hk with hk;omega
     rw [if_pos this];exact ri
   · rw [if_neg e] at hk
     by_cases e2:k=kj
     · subst e2
       rw [if_pos rfl,if_pos (by rw [h.ls];exact sj.1)] at hk;have:x=i:=by injection hk with hk;omega
       by_cases e3:x=j
       · exact absurd (by rw [←this,e3] at ri;rw [ri] at rj;exact (Option.some.inj rj).symm) e
       · rw [if_neg e3,if_pos this]
         exact rj
     · rw [if_neg e2] at hk
       have hr:=h.none_ k x hk;rw [if_neg (fun e3=>e2 (by rw [e3,rj] at hr;exact (Option.some.inj hr).symm)),if_neg (fun e3=>e (by rw [e3,ri] at hr;exact (Option.some.inj hr).symm))];exact hr
theorem Qum {r:List Nat}{cs:List Int}{i j:Nat}(hi:i<r.length)(hj:j<r.length)(x:Nat)(hx:x<r.length):at_ (Qdl r i j) cs x=Qke (at_ r cs) i j x:=by
 unfold at_ Qke;have hg:=Qdb (x:=x) hi hj
 by_cases e:x=j
 · subst e
   rw [if_pos rfl] at hg;rw [Qbu (hg.trans (Qbd 0 hi))]
   by_cases e2:x=i
   · subst e2;simp
   · simp [e2]
 · rw [if_neg e] at hg
   by_cases e2:x=i
   · subst e2
     rw [if_pos rfl] at hg;rw [Qbu (hg.trans (Qbd 0 hj))];simp
   · rw [if_neg e2] at hg
     rw [Qbu (hg.trans (Qbd 0 hx))];simp [e,e2]
theorem Qeg (r:List Nat)(i j:Nat):(Qdl r i j).length=r.length:=by simp [Qdl]
end Go.Proofs.YthoagdpakddbdaaGreatDoor
namespace Go.Proofs.YthoagdpakddbdaaGreatDoor
open Go.RowKit Go.Proofs.Tryz
structure Aft (G:Nat→Prop) (W W':World):Prop where
 kept:Qaz G W W'
 size:W.heap.size≤W'.heap.size
 bel:∀ B,(∀ b,b<B→G b)→Below B W W'
theorem Aft.refl (G:Nat→Prop)(W:World):Aft G W W:=⟨Qaz.refl _ _,Zn _,fun _ _=>Zr _ _⟩
theorem Aft.trans {G:Nat→Prop}{a b c:World}(h:Aft G a b)(k:Aft G b c):Aft G a c:=⟨h.kept.trans k.kept h.size,Nat.le_trans h.size k.size,fun B hB=>(h.bel B hB).trans (k.bel B hB)⟩
theorem Aft.drew {G:Nat→Prop}{a b:World}(h:Aft G a b):Aft G a b.drew:=⟨h.kept,h.size,fun B hB=>(h.bel B hB).drew⟩
theorem Aft.set {G:Nat→Prop}{a b:World}{g i:Nat}(h:Aft G a b)(hg:¬G g)(v:Value):Aft G a (b.setCell ⟨g,i,none⟩ v) :=
 ⟨h.kept.trans (Qaz.set _ _ _ _ hg) h.size,by simpa [World.setCell] using h.size,fun B hB=>(h.bel B hB).setCell (Nat.le_of_not_lt fun hl=>hg (hB g hl)) v⟩
theorem Aft.below {G:Nat→Prop}{W W':World}(h:Below W.heap.size W W')(hG:∀ b,G b→b<W.heap.size):Aft G W W' :=
 ⟨Qaz.below h,h.size,fun B hB=>by
  refine h.mono ?_
  rcases Nat.lt_or_ge W.heap.size B with hl|hl
  · exact absurd (hG _ (hB _ hl)) (by omega)
  · exact hl⟩
def nis (l:List Nat):List Int:=l.map (fun (k:Nat)=>(k:Int))
theorem Qea (l:List Nat):(nis l).length=l.length:=by simp [nis]
theorem Qfh {l:List Nat}{i k:Nat} (h:l[i]?=some k):(nis l)[i]?=some (k:Int):=by simp [nis,h]
theorem Qwu (l:List Nat)(i k:Nat):(nis l).set i (k:Int)=nis (l.set i k):=by simp [nis,List.map_set]
theorem Qmc (l m:List Nat):nis (l ++m)=nis l ++nis m:=by simp [nis]
theorem Qld {l:List Int}{i:Nat}{x:Int} (h:l[i]?=some x):(Qad l)[i]?=some (.int .i64 x):=by simp [Qad,h]
theorem Qte (l:List Int)(k:Nat)(x:Int):(Qad l).set k (.int .i64 x)=Qad (l.set k x):=by simp [Qad,List.map_set]
theorem Own.putAt {W:World}{B n c k s g o:Nat}{e:TypeId}{xs:List Value} (h:Own W B e s (some ⟨g,o,none⟩) n c xs) (v:Value):Own (W.setCell ⟨g,o+k,none⟩ v) B e s (some ⟨g,o,none⟩) n c (xs.set k v):=by
 refine ⟨by rw [List.length_set];exact h.1,?_⟩
 rcases h.2 with ⟨h',_⟩|⟨g',cap',cur,h1,h2,h3,h4,h5,h6,h7⟩
 · cases h'
 · cases h1
   refine Or.inr ⟨g,c,cur.setIfInBounds (0+k) v,rfl,h2,(show Blk W g e cur from h3).set_ (0+k) _,h4,h5,by simpa using h6,?_⟩
   rw [Array.toList_setIfInBounds,List.take_set,h7,Nat.zero_add]
theorem Own.front_ {w:World}{B s n n' c:Nat}{e:TypeId}{A:Option Addr}{xs xs':List Value}(h:Own w B e s A n c xs)(hn:n'≤n) (hx:xs.take (n'*s)=xs'):Own w B e s A n' c xs':=by
 subst hx;refine ⟨by rw [List.length_take,h.1,Nat.min_eq_left (Nat.mul_le_mul_right s hn)],?_⟩
 rcases h.2 with ⟨h',h0⟩|⟨g',cap',cur,h1,h2,h3,h4,h5,h6,h7⟩
 · cases h'
   obtain rfl:n'=0:=by omega
   exact .inl ⟨rfl,rfl⟩
 · cases h1
   refine .inr ⟨g',c,cur,rfl,h2,h3,by omega,h5,h6,?_⟩;rw [←h7,List.take_take,Nat.min_eq_left (Nat.mul_le_mul_right s hn)]
structure Qav (W:World) (G:Nat→Prop) (g:Nat) (A:Option Addr) (gc gs n m c:Nat) (R:List Nat) (C:List Int) (S:List Nat):Prop where
 blk:Blk W g 269 #[.slice A m c,.slice (some ⟨gc,0,none⟩) n n,.slice (some ⟨gs,0,none⟩) n n]
 row:Own W 0 3 1 A m c (Qad (nis R))
 cs:Blk W gc 2 (Qcf C)
 ss:Blk W gs 3 (Qcf (nis S))
 dA:∀ b,Qab A=some b→b≠g∧b≠gc∧b≠gs∧¬G b
 dg:g≠gc∧g≠gs∧gc≠gs
 dG:¬G g∧¬G gc∧¬G gs
 lt:∀ b,G b→b<W.heap.size
 lr:R.length=m
 lc:C.length=n
 ls:S.length=n
 n0:n≤16384
section
variable {W W':World} {G:Nat→Prop} {g gc gs n m c:Nat} {A:Option Addr} {R:List Nat} {C:List Int} {S:List Nat}
theorem Qav.drew (h:Qav W G g A gc gs n m c R C S):Qav W.drew G g A gc gs n m c R C S:=⟨h.blk,h.row,h.cs,h.ss,h.dA,h.dg,h.dG,h.lt,h.lr,h.lc,h.ls,h.n0⟩
theorem Qav.setR {gr i k:Nat} (h:Qav W G g (some ⟨gr,0,none⟩) gc gs n m c R C S):Qav (W.setCell ⟨gr,i,none⟩ (.int .i64 (k:Int))) G g (some ⟨gr,0,none⟩) gc gs n m c (R.set i k) C S:=by
 obtain ⟨d1,d2,d3,d4⟩:=h.dA gr rfl;have h1:=h.row.putAt (k:=i) (.int .i64 (k:Int));rw [Nat.zero_add,Qte,Qwu] at h1;exact ⟨h.blk.far_ (fun e=>d1 e.symm) _,h1,h.cs.far_ (fun e=>d2 e.symm) _,h.ss.far_ (fun e=>d3 e.symm) _,h.dA,h.dg,h.dG,fun b hb=>by simpa [World.setCell] using h.lt b hb,by rw [List.length_set];exact h.lr,h.lc,h.ls,h.n0⟩
theorem Qav.setC {i:Nat}{x:Int}(h:Qav W G g A gc gs n m c R C S):Qav (W.setCell ⟨gc,i,none⟩ (.int .i64 x)) G g A gc gs n m c R (C.set i x) S :=
 ⟨h.blk.far_ h.dg.1 _,h.row.far (Qaa _ _ _ _) (.inr fun e=>(h.dA gc e).2.1 rfl),h.cs.setI rfl,h.ss.far_ (fun e=>h.dg.2.2 e.symm) _,h.dA,h.dg,h.dG,fun b hb=>by simpa [World.setCell] using h.lt b hb,h.lr,by rw [List.length_set];exact h.lc,h.ls,h.n0⟩
theorem Qav.setS {i k:Nat}(h:Qav W G g A gc gs n m c R C S):Qav (W.setCell ⟨gs,i,none⟩ (.int .i64 (k:Int))) G g A gc gs n m c R C (S.set i k) :=
 ⟨h.blk.far_ h.dg.2.1 _,h.row.far (Qaa _ _ _ _) (.inr fun e=>(h.dA gs e).2.2.1 rfl),h.cs.far_ h.dg.2.2 _,h.ss.setI (Qwu _ _ _),h.dA,h.dg,h.dG,fun b hb=>by simpa [World.setCell] using h.lt b hb,h.lr,h.lc,by rw [List.length_set];exact h.ls,h.n0⟩
theorem Qav.keep (h:Qav W G g A gc gs n m c R C S)(hz:Below W.heap.size W W'):Qav W' G g A gc gs n m c R C S :=
 ⟨h.blk.below hz h.blk.lt,h.row.below hz,h.cs.below hz h.cs.lt,h.ss.below hz h.ss.lt,h.dA,h.dg,h.dG,fun b hb=>Nat.lt_of_lt_of_le (h.lt b hb) hz.size,h.lr,h.lc,h.ls,h.n0⟩
theorem Qav.more {G':Nat→Prop}(h:Qav W G g A gc gs n m c R C S)(hb:Below W.heap.size W W') (hG:∀ b,G' b→b<W'.heap.size∧(G b∨W.heap.size≤b)):Qav W' G' g A gc gs n m c R C S:=by
 have ho:∀ b,b<W.heap.size→¬G b→¬G' b:=fun b h1 h2 h3=>(hG b h3).2.elim h2 (fun h4=>by omega)
 have k:=h.keep hb;exact ⟨k.blk,k.row,k.cs,k.ss,fun b hb'=>⟨(h.dA b hb').1,(h.dA b hb').2.1,(h.dA b hb').2.2.1,ho b (h.row.lt b hb').2 (h.dA b hb').2.2.2⟩,h.dg,⟨ho _ h.blk.lt h.dG.1,ho _ h.cs.lt h.dG.2.1,ho _ h.ss.lt h.dG.2.2⟩,fun b hb'=>(hG b hb').1,h.lr,h.lc,h.ls,h.n0⟩
theorem Qav.f0 (h:Qav W G g A gc gs n m c R C S):W.cell? ⟨g,0,none⟩=some (.slice A m c):=Zq h.blk
theorem Qav.f1 (h:Qav W G g A gc gs n m c R C S):W.cell? ⟨g,1,none⟩=some (.slice (some ⟨gc,0,none⟩) n n):=Zq h.blk
theorem Qav.f2 (h:Qav W G g A gc gs n m c R C S):W.cell? ⟨g,2,none⟩=some (.slice (some ⟨gs,0,none⟩) n n):=Zq h.blk
theorem Qav.rowAt {gr i k:Nat} (h:Qav W G g (some ⟨gr,0,none⟩) gc gs n m c R C S) (hk:R[i]?=some k):W.cell? ⟨gr,i,none⟩=some (.int .i64 (k:Int)):=by
 obtain ⟨b,o,e,hc⟩:=h.row.rds.2 i _ (Qld (Qfh hk))
 cases e
 rwa [Nat.zero_add] at hc
theorem Qav.costAt {i:Nat}{x:Int}(h:Qav W G g A gc gs n m c R C S) (hk:C[i]?=some x):W.cell? ⟨gc,i,none⟩=some (.int .i64 x):=h.cs.cellI hk
theorem Qav.seatAt {i k:Nat}(h:Qav W G g A gc gs n m c R C S) (hk:S[i]?=some k):W.cell? ⟨gs,i,none⟩=some (.int .i64 (k:Int)):=h.ss.cellI (Qfh hk)
theorem Qav.rowBlk (h:Qav W G g A gc gs n m c R C S)(hm:0<m):∃ gr,A=some ⟨gr,0,none⟩∧W.frozen? ⟨gr,0,none⟩=false:=by
 obtain ⟨gr,cur,e,_,hb,_⟩:=h.row.block hm;exact ⟨gr,e,hb.frozen 0⟩
theorem Qav.fzR {gr i:Nat} (h:Qav W G g (some ⟨gr,0,none⟩) gc gs n m c R C S):W.frozen? ⟨gr,i,none⟩=false:=(h.row.warm gr rfl).2 i
theorem Qav.cap (h:Qav W G g A gc gs n m c R C S):m≤c∧c≤9223372036854775807:=⟨h.row.cap,h.row.capMax⟩
end
section
variable {P:Program} {ops:Array Oper} {Q:Exit→Act→World→Prop} {md:Region.Mode} {S:World→Prop} {k:Nat}
def Qct (P:Program)(md:Region.Mode)(ops:Array Oper)(Q:Exit→Act→World→Prop)(S:World→Prop)(k:Nat):Nat→Array Bool→Act→World→Prop
 | 0,listed,a,w=>Region.ready md ops listed=[]∧Q .normal a w
 | fuel+1,listed,a,w =>
  (Region.ready md ops listed=[]→Q .normal a w) ∧
  ∀ i∈Region.ready md ops listed,wpOp P ops Q i (fun a' w'=>if i=k then wpAny P md ops Q fuel (listed.setIfInBounds i true) a' w' else S w'∧Qct P md ops Q S k fuel (listed.setIfInBounds i true) a' w') a w
theorem Qku:∀ (fuel:Nat)(listed:Array Bool)(a:Act)(w:World),Qct P md ops Q S k fuel listed a w→wpAny P md ops Q fuel listed a w
 | 0,_,_,_,h=>h
 | fuel+1,_,_,_,h=>⟨h.1,fun i hi=>wpOp_mono (fun a' w' h'=>by
  by_cases e:i=k
  · rw [if_pos e] at h';exact h'
  · rw [if_neg e] at h';exact Qku fuel _ a' w' h'.2) (h.2 i hi)⟩
def Qes (md:Region.Mode)(ops:Array Oper)(k i:Nat):Bool:=(ops[k]?).elim false fun o=>o.after.any fun e=>Region.binds md e && e.on == i
theorem Qiv {i:Nat}{listed:Array Bool}(h:Qes md ops k i=true)(hi:i∈Region.ready md ops listed):k ∉ Region.ready md ops listed:=by
 intro hk;obtain ⟨_,o,ho,hall⟩:=mem_ready.1 hk;unfold Qes at h;rw [ho] at h;simp only [Option.elim,Array.any_eq_true',Bool.and_eq_true,beq_iff_eq] at h;obtain ⟨e,he,hb,hon⟩:=h;have h1:=hall e he hb;have h0:=(mem_ready.1 hi).1;rw [hon] at h1;simp only [Array.getD_eq_getD_getElem?] at h0 h1
 cases hx:listed[i]? with
 | none=>rw [hx] at h0;cases h0
 | some b=>rw [hx] at h0 h1;simp at h0 h1;rw [h0] at h1;cases h1
theorem Qne {i:Nat}{oi:Oper}{v:Value} (hi:ops[i]?=some oi) (hsel:∀ (j:Nat) (o:Oper) cs b,ops[j]?=some o→o.op≠.select cs b)
 (hQ:∀ c a w,Q (.panic c) (a.put oi.dst v) w→Q (.panic c) a w) (hwk:Qes md ops k i=true) (hik:i≠k) :
 ∀ (fuel:Nat) (listed:Array Bool) (a:Act) (w:World),
  (∀ j oj,ops[j]?=some oj→j≠i→listed.getD j true=false→(∀ e∈oj.after,Region.binds md e=true→e.on≠i)→oi.apart ops oj=true) →
  i∈Region.ready md ops listed→YieldsIf P ops S oi v a→S w →
  Qct P md ops Q S k fuel (listed.setIfInBounds i true) (a.put oi.dst v) w→Qct P md ops Q S k (fuel+1) listed a w:=by
 intro fuel
 induction fuel with
 | zero =>
  intro listed a w _ hr hy hS H;refine ⟨fun h=>(by rw [h] at hr;cases hr),fun j hj=>?_⟩
  by_cases hji:j=i
  · subst hji
    refine hy.wpOp hi hS ?_;rw [if_neg hik];exact ⟨hS,H⟩
  · have:=ready_mono hj hji
    rw [H.1] at this
    cases this
 | succ fuel ih =>
  intro listed a w hfree hr hy hS H;refine ⟨fun h=>(by rw [h] at hr;cases hr),fun j hj=>?_⟩
  by_cases hji:j=i
  · subst hji
    refine hy.wpOp hi hS ?_;rw [if_neg hik];exact ⟨hS,H⟩
  · have hjk:j≠k:=fun e=>Qiv hwk hr (e▸hj)
    have h1:=H.2 j (ready_mono hj hji);obtain ⟨hjun,oj,hoj,hall⟩:=mem_ready.1 hj
    have hnot:∀ e∈oj.after,Region.binds md e=true→e.on≠i:=fun e he hb heq=>by
     refine Qiv (k:=j) (i:=i) ?_ hr hj;unfold Qes;rw [hoj];simp only [Option.elim,Array.any_eq_true',Bool.and_eq_true,beq_iff_eq];exact ⟨e,he,hb,heq⟩
    have h2:=wpOp_putIf hoj (hfree j oj hoj hji hjun hnot) (fun cs b=>hsel i oi cs b hi) (fun cs b=>hsel j oj cs b hoj) hQ hy h1
    have hfree':∀ q oq,ops[q]?=some oq→q≠i→(listed.setIfInBounds j true).getD q true=false →
     (∀ e∈oq.after,Region.binds md e=true→e.on≠i)→oi.apart ops oq=true:=fun q oq hq hqi hun hno=>by
     refine hfree q oq hq hqi ?_ hno
     by_cases hjq:j=q
     · subst hjq;exact hjun
     · rw [getD_set_ne true hjq] at hun;exact hun
    refine wpOp_mono (fun a' w' h3=>?_) h2;rw [if_neg hjk] at h3 ⊢;refine ⟨h3.2.1,ih (listed.setIfInBounds j true) a' w' hfree' (ready_mono hr (Ne.symm hji)) h3.1 h3.2.1 ?_⟩;rw [Array.setIfInBounds_comm _ _ hji];exact h3.2.2
theorem takeK_ {i:Nat}{oi:Oper}{d:Option Tmp}{v:Value}{fuel:Nat}{listed:Array Bool}{a:Act}{w:World} (hi:ops[i]?=some oi) (hd:oi.dst=d)
 (hwk:Qes md ops k i=true) (hik:(i == k)=false) (hs:Region.noSelect ops=true) (hf:Region.free md ops listed i=true) (hr:(Region.ready md ops listed).contains i=true)
 (hQ:∀ c a w,Q (.panic c) (a.put oi.dst v) w→Q (.panic c) a w) (hw:Region.wanted oi (yielded ops a.tmps)=true) (hy:∀ w,S w→(execOp a.eval oi).run P w=.ok (.value v) w) (hS:S w)
 (h:Qct P md ops Q S k fuel (listed.setIfInBounds i true) (a.put d v) w):Qct P md ops Q S k (fuel+1) listed a w:=by
 subst hd;exact Qne hi (Region.noSelect_spec hs) hQ hwk (by simpa using hik) fuel listed a w (Region.free_spec hi hf) (by simpa using hr) (Or.inl ⟨hw,hy⟩) hS h
theorem Qpb {i:Nat}{oi:Oper}{v:Value} (hi:ops[i]?=some oi) (hsel:∀ (j:Nat) (o:Oper) cs b,ops[j]?=some o→o.op≠.select cs b)
 (hQ:∀ c a w,Q (.panic c) (a.put oi.dst v) w→Q (.panic c) a w) (hik:i≠k) :
 ∀ (fuel:Nat) (listed:Array Bool) (a:Act) (w:World),
  (∀ j oj,ops[j]?=some oj→j≠i→listed.getD j true=false→(∀ e∈oj.after,Region.binds md e=true→e.on≠i)→oi.apart ops oj=true) →
  i∈Region.ready md ops listed→YieldsIf P ops (fun _=>True) oi v a→S w →
  Qct P md ops Q S k fuel (listed.setIfInBounds i true) (a.put oi.dst v) w→Qct P md ops Q S k (fuel+1) listed a w:=by
 intro fuel
 induction fuel with
 | zero =>
  intro listed a w _ hr hy hS H;refine ⟨fun h=>(by rw [h] at hr;cases hr),fun j hj=>?_⟩
  by_cases hji:j=i
  · subst hji
    refine hy.wpOp hi trivial ?_;rw [if_neg hik];exact ⟨hS,H⟩
  · have:=ready_mono hj hji
    rw [H.1] at this
    cases this
 | succ fuel ih =>
  intro listed a w hfree hr hy hS H;refine ⟨fun h=>(by rw [h] at hr;cases hr),fun j hj=>?_⟩
  by_cases hji:j=i
  · subst hji
    refine hy.wpOp hi trivial ?_;rw [if_neg hik];exact ⟨hS,H⟩
  · have h1:=H.2 j (ready_mono hj hji)
    obtain ⟨hjun,oj,hoj,hall⟩:=mem_ready.1 hj
    have hnot:∀ e∈oj.after,Region.binds md e=true→e.on≠i:=fun e he hb heq=>by
     refine Qiv (k:=j) (i:=i) ?_ hr hj;unfold Qes;rw [hoj];simp only [Option.elim,Array.any_eq_true',Bool.and_eq_true,beq_iff_eq];exact ⟨e,he,hb,heq⟩
    have h2:=wpOp_putIf hoj (hfree j oj hoj hji hjun hnot) (fun cs b=>hsel i oi cs b hi) (fun cs b=>hsel j oj cs b hoj) hQ hy h1
    have hfree':∀ q oq,ops[q]?=some oq→q≠i→(listed.setIfInBounds j true).getD q true=false →
     (∀ e∈oq.after,Region.binds md e=true→e.on≠i)→oi.apart ops oq=true:=fun q oq hq hqi hun hno=>by
     refine hfree q oq hq hqi ?_ hno
     by_cases hjq:j=q
     · subst hjq;exact hjun
     · rw [getD_set_ne true hjq] at hun;exact hun
    refine wpOp_mono (fun a' w' h3=>?_) h2
    by_cases hjk:j=k
    · rw [if_pos hjk] at h3 ⊢
      refine wpAny_first hi hsel hQ fuel (listed.setIfInBounds j true) a' w' hfree' (ready_mono hr (Ne.symm hji)) (h3.1.imp (fun ⟨ha,hb⟩=>⟨ha,fun w=>hb w trivial⟩) id) ?_;rw [Array.setIfInBounds_comm _ _ hji];exact h3.2
    · rw [if_neg hjk] at h3 ⊢
      refine ⟨h3.2.1,ih (listed.setIfInBounds j true) a' w' hfree' (ready_mono hr (Ne.symm hji)) h3.1 h3.2.1 ?_⟩;rw [Array.setIfInBounds_comm _ _ hji];exact h3.2.2
theorem takeF_ {i:Nat}{oi:Oper}{d:Option Tmp}{v:Value}{fuel:Nat}{listed:Array Bool}{a:Act}{w:World} (hi:ops[i]?=some oi) (hd:oi.dst=d)
 (hik:(i == k)=false) (hs:Region.noSelect ops=true) (hf:Region.free md ops listed i=true) (hr:(Region.ready md ops listed).contains i=true)
 (hQ:∀ c a w,Q (.panic c) (a.put oi.dst v) w→Q (.panic c) a w) (hw:Region.wanted oi (yielded ops a.tmps)=true) (hy:∀ w,True→(execOp a.eval oi).run P w=.ok (.value v) w) (hS:S w)
 (h:Qct P md ops Q S k fuel (listed.setIfInBounds i true) (a.put d v) w):Qct P md ops Q S k (fuel+1) listed a w:=by
 subst hd;exact Qpb hi (Region.noSelect_spec hs) hQ (by simpa using hik) fuel listed a w (Region.free_spec hi hf) (by simpa using hr) (Or.inl ⟨hw,hy⟩) hS h
theorem tkK (i d:Nat){oi:Oper}{fuel:Nat}{listed:Array Bool}{a:Act}{w:World} (hi:ops[i]?=some oi:=by rfl) (hd:oi.dst=some d:=by rfl) (hwk:Qes md ops k i=true:=by kernel_rfl) (hik:(i == k)=false:=by rfl) (hs:Region.noSelect ops=true:=by kernel_rfl)
 (hf:Region.free md ops listed i=true:=by kernel_rfl) (hr:(Region.ready md ops listed).contains i=true:=by kernel_rfl) (hQ:∀ c a w v,Q (.panic c) (a.put oi.dst v) w→Q (.panic c) a w:=by exact fun _ _ _ _ h=>h) (hw:Region.wanted oi (yielded ops a.tmps)=true:=by rfl) (hS:S w:=by first|rfl|trivial|assumption)
 (h:∃ v,(∀ w,S w→(execOp a.eval oi).run P w=.ok (.value v) w)∧Qct P md ops Q S k fuel (listed.setIfInBounds i true) (a.put (some d) v) w):Qct P md ops Q S k (fuel+1) listed a w:=by
 obtain ⟨v,h1,h2⟩:=h;exact takeK_ (i:=i) (d:=some d) (v:=v) hi hd hwk hik hs hf hr (fun c a w=>hQ c a w v) hw h1 hS h2
theorem tkF (i d:Nat){oi:Oper}{fuel:Nat}{listed:Array Bool}{a:Act}{w:World} (hi:ops[i]?=some oi:=by rfl) (hd:oi.dst=some d:=by rfl) (hik:(i == k)=false:=by rfl) (hs:Region.noSelect ops=true:=by kernel_rfl)
 (hf:Region.free md ops listed i=true:=by kernel_rfl) (hr:(Region.ready md ops listed).contains i=true:=by kernel_rfl) (hQ:∀ c a w v,Q (.panic c) (a.put oi.dst v) w→Q (.panic c) a w:=by exact fun _ _ _ _ h=>h) (hw:Region.wanted oi (yielded ops a.tmps)=true:=by rfl) (hS:S w:=by first|rfl|trivial|assumption)
 (h:∃ v,(∀ w,True→(execOp a.eval oi).run P w=.ok (.value v) w)∧Qct P md ops Q S k fuel (listed.setIfInBounds i true) (a.put (some d) v) w):Qct P md ops Q S k (fuel+1) listed a w:=by
 obtain ⟨v,h1,h2⟩:=h;exact takeF_ (i:=i) (d:=some d) (v:=v) hi hd hik hs hf hr (fun c a w=>hQ c a w v) hw h1 hS h2
theorem Qci {o:Oper}{fuel:Nat}{listed:Array Bool}{a:Act}{w:World} (hr:Region.ready md ops listed=[k]) (ho:ops[k]?=some o)
 (h:∀ K':Act→World→Prop,Shut (∀ a w,wpAny P md ops Q fuel (listed.setIfInBounds k true) a w→K' a w)→if Region.wanted o (yielded ops a.tmps)=true then Oper.wp P o a w K' Q else K' (a.put o.dst undef) w) :
 Qct P md ops Q S k (fuel+1) listed a w:=by
 refine ⟨fun h0=>(by rw [hr] at h0;cases h0),fun j hj=>?_⟩
 rw [hr] at hj;obtain rfl:j=k:=by simpa using hj
 refine wpOp_step ho (fun K' hK=>h K' (fun a w hW=>hK a w ?_));rw [if_pos rfl];exact hW
theorem Qbx {i:Nat}{o:Oper}{fuel:Nat}{listed:Array Bool}{a:Act}{w:World} (hr:Region.ready md ops listed=[i]) (hik:(i == k)=false) (ho:ops[i]?=some o)
 (h:∀ K':Act→World→Prop,Shut (∀ a w,S w→(S w→Qct P md ops Q S k fuel (listed.setIfInBounds i true) a w)→K' a w)→if Region.wanted o (yielded ops a.tmps)=true then Oper.wp P o a w K' Q else K' (a.put o.dst undef) w) :
 Qct P md ops Q S k (fuel+1) listed a w:=by
 refine ⟨fun h0=>(by rw [hr] at h0;cases h0),fun j hj=>?_⟩
 rw [hr] at hj;obtain rfl:j=i:=by simpa using hj
 refine wpOp_step ho (fun K' hK=>h K' (fun a w hS hW=>hK a w ?_));rw [if_neg (by simpa using hik)];exact ⟨hS,hW hS⟩
theorem Qch {listed:Array Bool}{a:Act}{w:World} (hr:Region.ready md ops listed=[]) (h:Q .normal a w):∀ fuel,wpAny P md ops Q fuel listed a w
 | 0=>⟨hr,h⟩
 | _+1=>⟨fun _=>h,by rw [hr];simp⟩
theorem Qbp (k:Nat){id:Nat}{a:Act}{w:World}(hm:P.follows .mixedOrders=true)(hS:S w.drew)
 (h:S w.drew→Qct P .any ops Q S k ops.size (Array.replicate ops.size false) a w.drew):(Code.region id ops true).wp P Q a w :=
 wp_region_any hm (Qku _ _ _ _ (h hS))
end
end Go.Proofs.YthoagdpakddbdaaGreatDoor
