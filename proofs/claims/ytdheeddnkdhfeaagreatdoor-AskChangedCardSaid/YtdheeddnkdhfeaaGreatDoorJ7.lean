/- Parts of the proof: Wi, LsP, GaW, ClI, Hp, Hw, Ks, Hx, Hq, Hy. -/
import Derived.Test.YtdheeddnkdhfeaaGreatDoorJ4
import Derived.Lib.SliceRun
namespace Go.Proofs.YtdheeddnkdhfeaaGreatDoor
open Go.RowKit Go.Proofs.Tryz
attribute [local go_sem ↓] Go.wp_at_zero Go.wp_at_succ
def Qdr:List (ByteArray×Int)→List Value
 | []=>[]
 | p::t=>.string p.1::.int .i64 p.2::Qdr t
theorem Qiq:∀ l:List (ByteArray×Int),(Qdr l).length=l.length*2
 | []=>rfl
 | _::t=>by simp [Qdr,Qiq t];omega
theorem Qnb:∀ {l:List (ByteArray×Int)} {i:Nat} {p:ByteArray×Int},l[i]?=some p→(Qdr l)[i*2]?=some (.string p.1)∧(Qdr l)[i*2+1]?=some (.int .i64 p.2)
 | [],i,p,h=>by simp at h
 | q::t,0,p,h=>by simp at h;subst h;simp [Qdr]
 | q::t,i+1,p,h=>by
  have:=Qnb (l:=t) (i:=i) (p:=p) (by simpa using h);rw [show (i+1)*2=i*2+1+1 by omega,show i*2+1+1+1=(i*2+1)+1+1 by omega]
  simpa [Qdr] using this
theorem Qvj (l:List (ByteArray×Int)):∀ u∈Qdr l,u.oneCell'=true:=by
 induction l with
 | nil=>intro u hu;cases hu
 | cons p t ih =>
  intro u hu;simp only [Qdr,List.mem_cons] at hu
  rcases hu with rfl|rfl|hu
  · rfl
  · rfl
  · exact ih u hu
theorem Qqh:∀ {l:List (ByteArray×Int)} {j:Nat} {u:Value},(Qdr l)[j]?=some u→∃ p,l[j / 2]?=some p∧((j % 2=0∧u=.string p.1)∨(j % 2=1∧u=.int .i64 p.2))
 | [],j,u,h=>by simp [Qdr] at h
 | q::t,0,u,h=>by simp [Qdr] at h;exact ⟨q,by simp,.inl ⟨rfl,h.symm⟩⟩
 | q::t,1,u,h=>by simp [Qdr] at h;exact ⟨q,by simp,.inr ⟨rfl,h.symm⟩⟩
 | q::t,j+2,u,h=>by
  obtain ⟨p,h1,h2⟩:=Qqh (l:=t) (j:=j) (u:=u) (by simpa [Qdr] using h);refine ⟨p,?_,?_⟩
  · rw [show (j+2) / 2=j / 2+1 by omega];simpa using h1
  · rw [show (j+2) % 2=j % 2 by omega];exact h2
theorem RdW.rds {w:World}{n:Nat}{A:Option Addr} {l:List (ByteArray×Int)} (h:RdW w A n l):Rds w 2 A n (Qdr l) :=
 ⟨by rw [Qiq,h.1],fun j u hu=>by
  obtain ⟨p,hp,hu'⟩:=Qqh hu;obtain ⟨b,o,e,h1,h2⟩:=h.2 _ p hp;refine ⟨b,o,e,?_⟩
  rcases hu' with ⟨hm,rfl⟩|⟨hm,rfl⟩
  · rw [show o+j=o+j / 2*2 by omega];exact h1
  · rw [show o+j=o+j / 2*2+1 by omega];exact h2⟩
theorem Rds.rdW {w:World}{n:Nat}{A:Option Addr} {l:List (ByteArray×Int)} (h:Rds w 2 A n (Qdr l)):RdW w A n l :=
 ⟨by have:=h.1;rw [Qiq] at this;omega,fun i p hp=>by
  obtain ⟨h1,h2⟩:=Qnb hp;obtain ⟨b,o,e,c1⟩:=h.2 _ _ h1;obtain ⟨b',o',e',c2⟩:=h.2 _ _ h2;rw [e] at e';cases e'
  exact ⟨b,o,e,c1,by rw [Nat.add_assoc];exact c2⟩⟩
set_option maxHeartbeats 1000000 in
theorem Qra (s:ByteArray)(at_:Int)(A:Option Addr)(k c:Nat)(x:Int) (ps:List (ByteArray×Int)) (w:World) (hx:x≠0) (hr:RdW w A k ps) (hk:k≤1000000) :
 Calls prog 97 #[.string s,.int .i64 at_,.agg #[.slice A k c,.int .i64 x]] w fun e w'=>∃ A' c',e=.returned (.agg #[.slice A' (1+k) c',.int .i64 x])∧RdW w' A' (1+k) ((s,at_)::ps)∧(∀ b,Qac A'=some b→w.heap.size≤b∧b<w'.heap.size)∧Below w.heap.size w w':=by
 have HR:=Zh hr.rds;have HO:=Zh (Qvj ps);clear hr
 go_enter func97,ntmps97
 go_wp2_with fail
 (refine Qai ?_;intro w1 hw1)
 have hb1:Below w.heap.size w w1:=by rw [hw1];exact Qag
 have hT1:Blk w1 w.heap.size 66 #[.slice A k c,.int .i64 x]:=by rw [hw1];exact Qay
 have hB1:Blk w1 (w.heap.size+1) 66 #[.slice none 0 0,.int .i64 0]:=by rw [hw1];exact Qay
 have hz1:w1.heap.size=w.heap.size+1+1:=by rw [hw1];simp
 clear hw1;obtain ⟨t0,t1,_,_⟩:=hT1.two
 go_wp2_with fail
 have hb0:Below (w.heap.size+1) w1 w1.drew:=(Zr _ _).drew;have HSX:=Zh (show ∀ V,Below (w.heap.size+1) w1 V→V.cell? ⟨w.heap.size,0,none⟩=some (.slice A k c)∧V.cell? ⟨w.heap.size,1,none⟩=some (.int .i64 x) from fun V hV=>⟨(hV.cell (Nat.lt_succ_self _)).trans t0,(hV.cell (Nat.lt_succ_self _)).trans t1⟩)
 refine wp_region_held_drew (S:=fun V=>Below (w.heap.size+1) w1 V) (by kernel_rfl) hb0 (fun _=>?_);refine tz 0 11 ?_;refine tz 1 12 ?_;refine tz 2 13 ?_;refine tz 4 15 ?_;refine tz 5 16 ?_;refine tz 7 18 ?_;refine tz 8 19 ?_;refine Zk 3 (fun K hK=>?_);go_simp;obtain ⟨W,hW⟩:∃ W,W=(w1.alloc (.cells #[.string s,.int .i64 at_] 152)).drew:=⟨_,rfl⟩;rw [←hW]
 have hownW:Own W (w.heap.size+1+1) 152 2 (some ⟨w1.heap.size,0,none⟩) 1 1 [.string s,.int .i64 at_]:=by
  rw [hW];exact Own.drew (Own.lit w1 #[.string s,.int .i64 at_] 1 (by omega) (by omega) rfl)
 rw [hz1] at hownW;have hbW:Below (w.heap.size+1) w1 W:=by rw [hW];exact ((Zr _ _).alloc (by omega) _).drew
 have hB2:Blk W (w.heap.size+1) 66 #[.slice none 0 0,.int .i64 0]:=by rw [hW];exact Qng
 have hrW:Rds W 2 A k (Qdr ps):=HR.out.below (hb1.trans (hbW.mono (by omega)));have hzW:w.heap.size+1+1≤W.heap.size:=by have:=hbW.size;omega
 have hbwW:Below w.heap.size w W:=hb1.trans (hbW.mono (by omega));clear hW;refine hK.out _ _ hbW (fun _=>?_);clear hK K;refine Zk 6 (fun K hK=>?_);with_reducible refine Qaj (some 17) rfl rfl (.tmp 14) (.tmp 16) 64 rfl 152 _ 2 24 Qtu underlying64 rfl (by omega) rfl rfl hownW hrW HO.out (by omega) (by omega) hzW ?_
 intro A' c' w' hown' hg' _;have hb5:Below (w.heap.size+1) w1 w':=Zo hbW hg' (hownW.mono (by omega)) (by omega);have hb6:Below w.heap.size w w':=Zo hbwW hg' (hownW.mono (by omega)) (by omega);have hB':=hB2.grown hg' (hownW.ne (by omega));have HOW:=Zh ((hown'.far (Qaa w' (w.heap.size+1) 0 (.slice A' (1+k) c')) (.inr (hown'.ne (by omega)))).far (Qaa _ (w.heap.size+1) 1 (.int .i64 x)) (.inr (hown'.ne (by omega))));refine hK.out _ _ hb5 (fun _=>?_);clear hK K hownW hrW hg' hown';simp only [Act.put,Yi,Yj,Yk];obtain ⟨c0,c1,f0,f1⟩:=hB'.two;refine tz 9 20 ?_;refine Zk 10 (fun K hK=>?_);go_simp;refine hK.out _ _ ((hb5.setCell (by simp only;omega) _).setCell (by simp only;omega) _) (fun _=>?_);clear hK K;refine Zd ?_
 go_wp2_with fail
 refine bodyPost_ret (v:=.agg #[.slice A' (1+k) c',.int .i64 x]) (by simp [results,results97,go_sem,c0,c1]) rfl ?_;exact ⟨A',c',rfl,Rds.rdW (l:=(s,at_)::ps) HOW.out.rds,fun b e=>⟨by have:=(HOW.out.lt b e).1;omega,(HOW.out.lt b e).2⟩,Qag⟩
set_option maxHeartbeats 400000 in
theorem Qei (A:Option Addr)(n c:Nat)(l:List Int)(v:Int)(w:World)(h:RdI w A n l)(hn:n≤1000000000) :
 Calls prog 30 #[.slice A n c,.int .i64 v] w fun e w'=>e=.returned (.int .i64 (plI l v))∧w=w':=by
 have HR:=Zh h;have HL:=Zh h.1;clear h
 go_enter func30,ntmps30
 go_wp2_with fail
 go_loop [5] (fun q=>∃ k:Nat,k≤n∧q=.int .i64 k∧∀ j x,j<k→l[j]?=some x→x≠v) (fun q=>n-(intOf q).toNat)
 case atStart=>exact ⟨0,Nat.zero_le _,rfl,fun _ _ h=>absurd h (Nat.not_lt_zero _)⟩
 case round =>
  exact Kar
theorem Qeb (g a:Nat)(N:Qak)(x:Tri)(w:World)(h:Qen w g N) (hx:N.ar[a]?=some x):Calls prog 83 #[.pointer (some ⟨g,0,none⟩),.int .i64 a] w fun e w'=>e=.returned (.int .i64 x.2.2)∧w=w':=by
 have HA:=Zh (show ∀ V,V=w→Calls prog 93 #[.pointer (some ⟨g,0,none⟩),.int .i64 a] V fun e w'=>e=.returned (.bool true)∧V=w' from fun V e=>e▸Qga g N a w h (by omega) (by have:=(Zs hx).1;omega))
 obtain ⟨A,B,C,I,O,P,n,m,k,c,d,e,ci,co,cp,h⟩:=h;have hn1:=h.n1;have ha:a<m:=by have:=(Zs hx).1;rw [h.net.2.1.1] at this;exact this
 have hm:=h.ok.arLe h.net.2.1.1;obtain ⟨b,o,x',y',z',rfl,hx',cx,cy,cz⟩:=h.net.2.1.at_ ha;rw [hx] at hx'
 cases hx'
 have i1:(0:Int)≤(a:Int):=by omega
 have i2:(a:Int)<(m:Int):=by omega
 clear hx h
 go_enter func83,ntmps83
 exact Kby
set_option maxHeartbeats 1000000 in
theorem Qmb (A:Option Addr)(n c:Nat)(xs:List Value)(w:World)(h:Rds w 1 A n xs)(h1:∀ u∈xs,u.oneCell'=true)(hn:n≤1000000000) :
 Calls prog 76 #[.slice A n c] w fun e w'=>∃ A' c',e=.returned (.slice A' n c')∧Own w' w.heap.size 3 1 A' n c' xs∧Below w.heap.size w w':=by
 have q22:∀ (w:World) (a:Option Addr) (n c n' c':Nat),(binOp .eql 61 (.slice a n c) (.slice none n' c')).run prog w=.ok (.bool a.isNone) w:=fun w a n c n' c'=>Lib.run_eql_slice_nil w _ _ a n c n' c' underlying61
 cases A with
 | none =>
  have hl:xs=[]:=by
   cases hl:xs with
   | nil=>rfl
   | cons p t =>
    obtain ⟨b,o,e,_⟩:=h.2 0 p (by rw [hl];rfl)
    cases e
  subst hl;have h0:n=0:=by have:=h.1;simp at this;omega
  subst h0
  go_enter func76,ntmps76
  go_wp2
  go_ret
  exact ⟨none,0,rfl,Own.nil _ _ _ _,Qag⟩
 | some a =>
  have hb1:∀ o,Below w.heap.size w (w.alloc o):=fun o=>(Zr _ _).alloc (Zn _) o
  have hown0:Own (w.alloc (.cells #[] 3)) w.heap.size 3 1 (some ⟨w.heap.size,0,none⟩) 0 0 []:=Own.lit w #[] 0 (Zn _) (by omega) rfl
  go_enter func76,ntmps76
  go_wp2_with (at_builtin;with_reducible refine Qan rfl (.tmp 5) (.tmp 6) 61 rfl 3 _ 1 8 infoClI underlying61 rfl (by omega) (B:=w.heap.size) rfl rfl hown0 (h.below (hb1 _)) h1 (by omega) (by omega) (by simp) ?_)
  intro A' c' w' hown hg _;have hb2:Below w.heap.size w w':=Zo (hb1 _) hg hown0 (by simp)
  try simp only [Yz,List.nil_append] at hown
  have HO:=Zh hown;clear hown hg
  go_wp2
  go_ret
  exact ⟨_,_,rfl,HO.out,hb2⟩
end Go.Proofs.YtdheeddnkdhfeaaGreatDoor
namespace Go.Proofs.YtdheeddnkdhfeaaGreatDoor
/-! A binary heap, by the costs at its places; plain. -/
def Ord (c:Nat→Int)(len:Nat):Prop:=∀ i,0<i→i<len→c ((i-1) / 2)≤c i
structure UpO (c:Nat→Int) (len p:Nat):Prop where
 o:∀ i,0<i→i<len→i≠p→c ((i-1) / 2)≤c i
 g:∀ i,0<i→i<len→(i-1) / 2=p→0<p→c ((p-1) / 2)≤c i
structure Qie (c:Nat→Int) (len p:Nat):Prop where
 o:∀ i,0<i→i<len→(i-1) / 2≠p→c ((i-1) / 2)≤c i
 g:∀ i,0<i→i<len→(i-1) / 2=p→0<p→c ((p-1) / 2)≤c i
def Qlt (c:Nat→Int)(i j:Nat):Nat→Int:=fun x=>if x=i then c j else if x=j then c i else c x
theorem Qhg (c:Nat→Int)(i j:Nat):Qlt c i j i=c j:=by simp [Qlt]
theorem Qre (c:Nat→Int)(i j:Nat):Qlt c i j j=c i:=by
 unfold Qlt
 by_cases h:j=i
 · simp [h]
 · simp [h]
theorem Qgf (c:Nat→Int){i j x:Nat}(h:x≠i)(h':x≠j):Qlt c i j x=c x:=by simp [Qlt,h,h']
theorem UpO.done {c:Nat→Int}{len p:Nat}(h:UpO c len p) (hp:p=0∨c ((p-1) / 2)≤c p):Ord c len:=fun i h0 hl=>by
 by_cases e:i=p
 · subst e
   rcases hp with hp|hp
   · omega
   · exact hp
 · exact h.o i h0 hl e
theorem UpO.step {c:Nat→Int}{len p:Nat}(h:UpO c len p)(h0:0<p)(hl:p<len) (hc:c p≤c ((p-1) / 2)):UpO (Qlt c p ((p-1) / 2)) len ((p-1) / 2):=by
 have hq:(p-1) / 2<p:=by omega
 generalize hqe:(p-1) / 2=q at *;refine ⟨fun i hi hil hne=>?_,fun i hi hil hpi hqp=>?_⟩
 · by_cases e1:i=p
   · subst e1
     rw [hqe,Qre,Qhg];exact hc
   · rw [Qgf c e1 hne]
     by_cases e2:(i-1) / 2=p
     · rw [e2,Qhg]
       have:=h.g i hi hil e2 h0;rw [hqe] at this;exact this
     · by_cases e3:(i-1) / 2=q
       · rw [e3,Qre]
         have:=h.o i hi hil e1;rw [e3] at this;omega
       · rw [Qgf c e2 e3]
         exact h.o i hi hil e1
 · have e0:(q-1) / 2≠q:=by omega
   have e0':(q-1) / 2≠p:=by omega
   rw [Qgf c e0' e0];have hgq:=h.o q hqp (by omega) (by omega)
   by_cases e1:i=p
   · subst e1
     rw [Qhg];exact hgq
   · rw [Qgf c e1 (by omega)]
     have:=h.o i hi hil e1;rw [hpi] at this;omega
theorem Qie.done {c:Nat→Int}{len p:Nat}(h:Qie c len p) (hp:∀ i,0<i→i<len→(i-1) / 2=p→c p≤c i):Ord c len:=fun i h0 hl=>by
 by_cases e:(i-1) / 2=p
 · rw [e];exact hp i h0 hl e
 · exact h.o i h0 hl e
theorem Qie.step {c:Nat→Int}{len p m:Nat}(h:Qie c len p)(h0:0<m)(hl:m<len) (hm:(m-1) / 2=p) (hc:c m≤c p) (ho:∀ i,0<i→i<len→(i-1) / 2=p→c m≤c i):Qie (Qlt c p m) len m:=by
 have hpm:p<m:=by omega
 refine ⟨fun i hi hil hne=>?_,fun i hi hil hpi _=>?_⟩
 · by_cases e1:i=m
   · subst e1
     rw [hm,Qhg,Qre];exact hc
   · by_cases e2:i=p
     · subst e2
       have e3:(i-1) / 2≠i:=by omega
       rw [Qhg,Qgf c e3 hne];exact h.g m h0 hl hm hi
     · rw [Qgf c e2 e1]
       by_cases e3:(i-1) / 2=p
       · rw [e3,Qhg]
         exact ho i hi hil e3
       · rw [Qgf c e3 hne]
         exact h.o i hi hil e3
 · rw [hm,Qhg,Qgf c (by omega) (by omega)]
   have:=h.o i hi hil (by omega);rw [hpi] at this;exact this
theorem Ord.root {c:Nat→Int}{len:Nat}(h:Ord c len):∀ i,i<len→c 0≤c i:=by
 intro i
 induction i using Nat.strongRecOn with
 | ind i ih =>
  intro hl
  by_cases e:i=0
  · subst e;exact Int.le_refl _
  · have h1:=h i (by omega) hl
    have h2:=ih ((i-1) / 2) (by omega) (by omega);omega
theorem Ord.pop {c c':Nat→Int}{len:Nat} (h:Ord c (len+1)) (hc:∀ i,0<i→i<len→c' i=c i):Qie c' len 0 :=
 ⟨fun i hi hl hne=>by rw [hc i hi hl,hc _ (by omega) (by omega)];exact h i hi (by omega),fun i hi hl hp h0=>by omega⟩
theorem Ord.push {c c':Nat→Int}{len:Nat}(h:Ord c len)(hc:∀ i,i<len→c' i=c i):UpO c' (len+1) len :=
 ⟨fun i hi hl hne=>by rw [hc i (by omega),hc _ (by omega)];exact h i hi (by omega),fun i hi hl hp h0=>by omega⟩
theorem Ord.lower {c c':Nat→Int}{len p:Nat}(h:Ord c len)(hc:∀ i,i<len→i≠p→c' i=c i)(hp:c' p≤c p)(hl:p<len):UpO c' len p :=
 ⟨fun i hi hil hne=>by
  rw [hc i hil hne]
  by_cases e:(i-1) / 2=p
  · have:=h i hi hil;rw [e] at this ⊢;omega
  · rw [hc _ (by omega) e];exact h i hi hil,fun i hi hil hpi h0=>by
  have h1:=h i hi hil;have h2:=h p h0 hl;rw [hpi] at h1;rw [hc i hil (by omega),hc _ (by omega) (by omega)];omega⟩
structure HpS (n:Nat) (r:List Nat) (cs:List Int) (st:List Nat):Prop where
 lc:cs.length=n
 ls:st.length=n
 seat:∀ i k,r[i]?=some k→k<n∧st[k]?=some (i+1)
 none_:∀ k i,st[k]?=some (i+1)→r[i]?=some k
def at_ (r:List Nat)(cs:List Int)(i:Nat):Int:=cs.getD (r.getD i 0) 0
theorem HpS.nodup {n:Nat}{r:List Nat}{cs:List Int}{st:List Nat}(h:HpS n r cs st){i j k:Nat} (hi:r[i]?=some k) (hj:r[j]?=some k):i=j:=by
 have h1:=(h.seat i k hi).2;have h2:=(h.seat j k hj).2;rw [h1] at h2
 injection h2 with h2
 omega
def Qea (r:List Nat)(i j:Nat):List Nat:=(r.set i (r.getD j 0)).set j (r.getD i 0)
theorem Qcp {α:Type}{l:List α}{i:Nat}{x d:α} (h:l[i]?=some x):l.getD i d=x:=by rw [Ya,h];rfl
theorem Qbp {α:Type}{l:List α}{i:Nat}(d:α)(h:i<l.length):l[i]?=some (l.getD i d):=by rw [Ya,Zg h];rfl
theorem Qdn {r:List Nat}{i j x:Nat}(hi:i<r.length)(hj:j<r.length):(Qea r i j)[x]?=if x=j then r[i]? else if x=i then r[j]? else r[x]?:=by
 unfold Qea
 by_cases e:x=j
 · subst e
   rw [Yg (by rw [Yq];exact hj),if_pos rfl,Qbp 0 hi]
 · rw [if_neg e,Yh (fun h=>e h.symm)]
   by_cases e2:x=i
   · subst e2
     rw [Yg hi,if_pos rfl,Qbp 0 hj]
   · rw [if_neg e2,Yh (fun h=>e2 h.symm)]
def Qjl (r st:List Nat)(i j:Nat):List Nat:=(st.set (r.getD j 0) (i+1)).set (r.getD i 0) (j+1)
theorem HpS.swap {n:Nat}{r:List Nat}{cs:List Int}{st:List Nat}(h:HpS n r cs st){i j:Nat}(hi:i<r.length)(hj:j<r.length):HpS n (Qea r i j) cs (Qjl r st i j):=by
 have ri:=Qbp 0 hi;have rj:=Qbp 0 hj;generalize hki:r.getD i 0=ki at *;generalize hkj:r.getD j 0=kj at *;have si:=h.seat i ki ri;have sj:=h.seat j kj rj
 have sget:∀ x,(Qjl r st i j)[x]?=if x=ki then (if ki<st.length then some (j+1) else none) else if x=kj then (if kj<st.length then some (i+1) else none) else st[x]?:=fun x=>by
  unfold Qjl;rw [hki,hkj]
  by_cases e:x=ki
  · subst e
    rw [if_pos rfl,List.getElem?_set];simp
  · rw [if_neg e,Yh (fun h=>e h.symm)]
    by_cases e2:x=kj
    · subst e2
      rw [if_pos rfl,List.getElem?_set];simp
    · rw [if_neg e2,Yh (fun h=>e2 h.symm)]
 refine ⟨h.lc,by unfold Qjl;rw [Yq,Yq];exact h.ls,fun x k hx=>?_,fun k x hk=>?_⟩
 · rw [Qdn hi hj] at hx
   rw [sget]
   by_cases e:x=j
   · subst e
     rw [if_pos rfl,ri] at hx
     cases hx
     exact ⟨si.1,by rw [if_pos rfl,if_pos (by rw [h.ls];exact si.1)]⟩
   · rw [if_neg e] at hx
     by_cases e2:x=i
     · subst e2
       rw [if_pos rfl,rj] at hx
       cases hx
       have hne:kj≠ki:=fun e3=>e (by rw [e3] at rj;exact h.nodup ri rj)
       exact ⟨sj.1,by rw [if_neg hne,if_pos rfl,if_pos (by rw [h.ls];exact sj.1)]⟩
     · rw [if_neg e2] at hx
       have hs:=h.seat x k hx;exact ⟨hs.1,by rw [if_neg (fun e3=>e2 (by rw [e3] at hx;exact h.nodup hx ri)),if_neg (fun e3=>e (by rw [e3] at hx;exact h.nodup hx rj))];exact hs.2⟩
 · rw [sget] at hk
   rw [Qdn hi hj]
   by_cases e:k=ki
   · subst e
     rw [if_pos rfl,if_pos (by rw [h.ls];exact si.1)] at hk;have:x=j:=by injection hk with hk;omega
     rw [if_pos this];exact ri
   · rw [if_neg e] at hk
     by_cases e2:k=kj
     · subst e2
       rw [if_pos rfl,if_pos (by rw [h.ls];exact sj.1)] at hk;have:x=i:=by injection hk with hk;omega
       by_cases e3:x=j
       · exact absurd (by rw [←this,e3] at ri;rw [ri] at rj;exact (Yv rj).symm) e
       · rw [if_neg e3,if_pos this]
         exact rj
     · rw [if_neg e2] at hk
       have hr:=h.none_ k x hk;rw [if_neg (fun e3=>e2 (by rw [e3,rj] at hr;exact (Yv hr).symm)),if_neg (fun e3=>e (by rw [e3,ri] at hr;exact (Yv hr).symm))];exact hr
theorem Qyz {r:List Nat}{cs:List Int}{i j:Nat}(hi:i<r.length)(hj:j<r.length)(x:Nat)(hx:x<r.length):at_ (Qea r i j) cs x=Qlt (at_ r cs) i j x:=by
 unfold at_ Qlt;have hg:=Qdn (x:=x) hi hj
 by_cases e:x=j
 · subst e
   rw [if_pos rfl] at hg;rw [Qcp (hg.trans (Qbp 0 hi))]
   by_cases e2:x=i
   · subst e2;simp
   · simp [e2]
 · rw [if_neg e] at hg
   by_cases e2:x=i
   · subst e2
     rw [if_pos rfl] at hg;rw [Qcp (hg.trans (Qbp 0 hj))];simp
   · rw [if_neg e2] at hg
     rw [Qcp (hg.trans (Qbp 0 hx))];simp [e,e2]
theorem Qfd (r:List Nat)(i j:Nat):(Qea r i j).length=r.length:=by simp [Qea]
end Go.Proofs.YtdheeddnkdhfeaaGreatDoor
namespace Go.Proofs.YtdheeddnkdhfeaaGreatDoor
open Go.RowKit Go.Proofs.Tryz
structure Aft (G:Nat→Prop) (W W':World):Prop where
 kept:Qbb G W W'
 size:W.heap.size≤W'.heap.size
 bel:∀ B,(∀ b,b<B→G b)→Below B W W'
theorem Aft.refl (G:Nat→Prop)(W:World):Aft G W W:=⟨Qbb.refl _ _,Zn _,fun _ _=>Zr _ _⟩
theorem Aft.trans {G:Nat→Prop}{a b c:World}(h:Aft G a b)(k:Aft G b c):Aft G a c:=⟨h.kept.trans k.kept h.size,Yx h.size k.size,fun B hB=>(h.bel B hB).trans (k.bel B hB)⟩
theorem Aft.drew {G:Nat→Prop}{a b:World}(h:Aft G a b):Aft G a b.drew:=⟨h.kept,h.size,fun B hB=>(h.bel B hB).drew⟩
theorem Aft.set {G:Nat→Prop}{a b:World}{g i:Nat}(h:Aft G a b)(hg:¬G g)(v:Value):Aft G a (b.setCell ⟨g,i,none⟩ v) :=
 ⟨h.kept.trans (Qbb.set _ _ _ _ hg) h.size,by simpa [World.setCell] using h.size,fun B hB=>(h.bel B hB).setCell (Nat.le_of_not_lt fun hl=>hg (hB g hl)) v⟩
theorem Aft.below {G:Nat→Prop}{W W':World}(h:Below W.heap.size W W')(hG:∀ b,G b→b<W.heap.size):Aft G W W' :=
 ⟨Qbb.below h,h.size,fun B hB=>by
  refine h.mono ?_
  rcases Nat.lt_or_ge W.heap.size B with hl|hl
  · exact absurd (hG _ (hB _ hl)) (by omega)
  · exact hl⟩
def nis (l:List Nat):List Int:=l.map (fun (k:Nat)=>(k:Int))
theorem Qex (l:List Nat):(nis l).length=l.length:=by simp [nis]
theorem Qgd {l:List Nat}{i k:Nat} (h:l[i]?=some k):(nis l)[i]?=some (k:Int):=by simp [nis,h]
theorem Qyn (l:List Nat)(i k:Nat):(nis l).set i (k:Int)=nis (l.set i k):=by simp [nis,List.map_set]
theorem Qnq (l m:List Nat):nis (l ++m)=nis l ++nis m:=by simp [nis]
theorem Qgt {l:List Int}{i:Nat}{x:Int} (h:l[i]?=some x):(Qaf l)[i]?=some (.int .i64 x):=by simp [Qaf,h]
theorem Qvl (l:List Int)(k:Nat)(x:Int):(Qaf l).set k (.int .i64 x)=Qaf (l.set k x):=by simp [Qaf,List.map_set]
theorem Own.putAt {W:World}{B n c k s g o:Nat}{e:TypeId}{xs:List Value} (h:Own W B e s (some ⟨g,o,none⟩) n c xs) (v:Value):Own (W.setCell ⟨g,o+k,none⟩ v) B e s (some ⟨g,o,none⟩) n c (xs.set k v):=by
 refine ⟨by rw [Yq];exact h.1,?_⟩
 exact Kbq
theorem Own.front_ {w:World}{B s n n' c:Nat}{e:TypeId}{A:Option Addr}{xs xs':List Value}(h:Own w B e s A n c xs)(hn:n'≤n) (hx:xs.take (n'*s)=xs'):Own w B e s A n' c xs':=by
 subst hx;refine ⟨by rw [Yw,h.1,Nat.min_eq_left (Nat.mul_le_mul_right s hn)],?_⟩
 rcases h.2 with ⟨h',h0⟩|⟨g',cap',cur,h1,h2,h3,h4,h5,h6,h7⟩
 · cases h'
   obtain rfl:n'=0:=by omega
   exact .inl ⟨rfl,rfl⟩
 · cases h1
   refine .inr ⟨g',c,cur,rfl,h2,h3,by omega,h5,h6,?_⟩;rw [←h7,List.take_take,Nat.min_eq_left (Nat.mul_le_mul_right s hn)]
structure Qbk (W:World) (G:Nat→Prop) (g:Nat) (A:Option Addr) (gc gs n m c:Nat) (R:List Nat) (C:List Int) (S:List Nat):Prop where
 blk:Blk W g 258 #[.slice A m c,.slice (some ⟨gc,0,none⟩) n n,.slice (some ⟨gs,0,none⟩) n n]
 row:Own W 0 3 1 A m c (Qaf (nis R))
 cs:Blk W gc 2 (Qcs C)
 ss:Blk W gs 3 (Qcs (nis S))
 dA:∀ b,Qac A=some b→b≠g∧b≠gc∧b≠gs∧¬G b
 dg:g≠gc∧g≠gs∧gc≠gs
 dG:¬G g∧¬G gc∧¬G gs
 lt:∀ b,G b→b<W.heap.size
 lr:R.length=m
 lc:C.length=n
 ls:S.length=n
 n0:n≤16384
section
variable {W W':World} {G:Nat→Prop} {g gc gs n m c:Nat} {A:Option Addr} {R:List Nat} {C:List Int} {S:List Nat}
theorem Qbk.drew (h:Qbk W G g A gc gs n m c R C S):Qbk W.drew G g A gc gs n m c R C S:=⟨h.blk,h.row,h.cs,h.ss,h.dA,h.dg,h.dG,h.lt,h.lr,h.lc,h.ls,h.n0⟩
theorem Qbk.setR {gr i k:Nat} (h:Qbk W G g (some ⟨gr,0,none⟩) gc gs n m c R C S):Qbk (W.setCell ⟨gr,i,none⟩ (.int .i64 (k:Int))) G g (some ⟨gr,0,none⟩) gc gs n m c (R.set i k) C S:=by
 obtain ⟨d1,d2,d3,d4⟩:=h.dA gr rfl;have h1:=h.row.putAt (k:=i) (.int .i64 (k:Int));rw [Yz,Qvl,Qyn] at h1;exact ⟨h.blk.far_ (fun e=>d1 e.symm) _,h1,h.cs.far_ (fun e=>d2 e.symm) _,h.ss.far_ (fun e=>d3 e.symm) _,h.dA,h.dg,h.dG,fun b hb=>by simpa [World.setCell] using h.lt b hb,by rw [Yq];exact h.lr,h.lc,h.ls,h.n0⟩
theorem Qbk.setC {i:Nat}{x:Int}(h:Qbk W G g A gc gs n m c R C S):Qbk (W.setCell ⟨gc,i,none⟩ (.int .i64 x)) G g A gc gs n m c R (C.set i x) S :=
 ⟨h.blk.far_ h.dg.1 _,h.row.far (Qaa _ _ _ _) (.inr fun e=>(h.dA gc e).2.1 rfl),h.cs.setI rfl,h.ss.far_ (fun e=>h.dg.2.2 e.symm) _,h.dA,h.dg,h.dG,fun b hb=>by simpa [World.setCell] using h.lt b hb,h.lr,by rw [Yq];exact h.lc,h.ls,h.n0⟩
theorem Qbk.setS {i k:Nat}(h:Qbk W G g A gc gs n m c R C S):Qbk (W.setCell ⟨gs,i,none⟩ (.int .i64 (k:Int))) G g A gc gs n m c R C (S.set i k) :=
 ⟨h.blk.far_ h.dg.2.1 _,h.row.far (Qaa _ _ _ _) (.inr fun e=>(h.dA gs e).2.2.1 rfl),h.cs.far_ h.dg.2.2 _,h.ss.setI (Qyn _ _ _),h.dA,h.dg,h.dG,fun b hb=>by simpa [World.setCell] using h.lt b hb,h.lr,h.lc,by rw [Yq];exact h.ls,h.n0⟩
theorem Qbk.keep (h:Qbk W G g A gc gs n m c R C S)(hz:Below W.heap.size W W'):Qbk W' G g A gc gs n m c R C S :=
 ⟨h.blk.below hz h.blk.lt,h.row.below hz,h.cs.below hz h.cs.lt,h.ss.below hz h.ss.lt,h.dA,h.dg,h.dG,fun b hb=>Yu (h.lt b hb) hz.size,h.lr,h.lc,h.ls,h.n0⟩
theorem Qbk.more {G':Nat→Prop}(h:Qbk W G g A gc gs n m c R C S)(hb:Below W.heap.size W W') (hG:∀ b,G' b→b<W'.heap.size∧(G b∨W.heap.size≤b)):Qbk W' G' g A gc gs n m c R C S:=by
 have ho:∀ b,b<W.heap.size→¬G b→¬G' b:=fun b h1 h2 h3=>(hG b h3).2.elim h2 (fun h4=>by omega)
 have k:=h.keep hb;exact ⟨k.blk,k.row,k.cs,k.ss,fun b hb'=>⟨(h.dA b hb').1,(h.dA b hb').2.1,(h.dA b hb').2.2.1,ho b (h.row.lt b hb').2 (h.dA b hb').2.2.2⟩,h.dg,⟨ho _ h.blk.lt h.dG.1,ho _ h.cs.lt h.dG.2.1,ho _ h.ss.lt h.dG.2.2⟩,fun b hb'=>(hG b hb').1,h.lr,h.lc,h.ls,h.n0⟩
theorem Qbk.f0 (h:Qbk W G g A gc gs n m c R C S):W.cell? ⟨g,0,none⟩=some (.slice A m c):=Zq h.blk
theorem Qbk.f1 (h:Qbk W G g A gc gs n m c R C S):W.cell? ⟨g,1,none⟩=some (.slice (some ⟨gc,0,none⟩) n n):=Zq h.blk
theorem Qbk.f2 (h:Qbk W G g A gc gs n m c R C S):W.cell? ⟨g,2,none⟩=some (.slice (some ⟨gs,0,none⟩) n n):=Zq h.blk
theorem Qbk.rowAt {gr i k:Nat} (h:Qbk W G g (some ⟨gr,0,none⟩) gc gs n m c R C S) (hk:R[i]?=some k):W.cell? ⟨gr,i,none⟩=some (.int .i64 (k:Int)):=by
 obtain ⟨b,o,e,hc⟩:=h.row.rds.2 i _ (Qgt (Qgd hk))
 cases e
 rwa [Yz] at hc
theorem Qbk.costAt {i:Nat}{x:Int}(h:Qbk W G g A gc gs n m c R C S) (hk:C[i]?=some x):W.cell? ⟨gc,i,none⟩=some (.int .i64 x):=h.cs.cellI hk
theorem Qbk.seatAt {i k:Nat}(h:Qbk W G g A gc gs n m c R C S) (hk:S[i]?=some k):W.cell? ⟨gs,i,none⟩=some (.int .i64 (k:Int)):=h.ss.cellI (Qgd hk)
theorem Qbk.rowBlk (h:Qbk W G g A gc gs n m c R C S)(hm:0<m):∃ gr,A=some ⟨gr,0,none⟩∧W.frozen? ⟨gr,0,none⟩=false:=by
 obtain ⟨gr,cur,e,_,hb,_⟩:=h.row.block hm;exact ⟨gr,e,hb.frozen 0⟩
theorem Qbk.fzR {gr i:Nat} (h:Qbk W G g (some ⟨gr,0,none⟩) gc gs n m c R C S):W.frozen? ⟨gr,i,none⟩=false:=(h.row.warm gr rfl).2 i
theorem Qbk.cap (h:Qbk W G g A gc gs n m c R C S):m≤c∧c≤9223372036854775807:=⟨h.row.cap,h.row.capMax⟩
end
section
variable {P:Program} {ops:Array Oper} {Q:Exit→Act→World→Prop} {md:Region.Mode} {S:World→Prop} {k:Nat}
def Qdg (P:Program)(md:Region.Mode)(ops:Array Oper)(Q:Exit→Act→World→Prop)(S:World→Prop)(k:Nat):Nat→Array Bool→Act→World→Prop
 | 0,listed,a,w=>Region.ready md ops listed=[]∧Q .normal a w
 | fuel+1,listed,a,w =>
  (Region.ready md ops listed=[]→Q .normal a w) ∧
  ∀ i∈Region.ready md ops listed,wpOp P ops Q i (fun a' w'=>if i=k then wpAny P md ops Q fuel (listed.setIfInBounds i true) a' w' else S w'∧Qdg P md ops Q S k fuel (listed.setIfInBounds i true) a' w') a w
theorem Qmq:∀ (fuel:Nat)(listed:Array Bool)(a:Act)(w:World),Qdg P md ops Q S k fuel listed a w→wpAny P md ops Q fuel listed a w
 | 0,_,_,_,h=>h
 | fuel+1,_,_,_,h=>⟨h.1,fun i hi=>wpOp_mono (fun a' w' h'=>by
  by_cases e:i=k
  · rw [if_pos e] at h';exact h'
  · rw [if_neg e] at h';exact Qmq fuel _ a' w' h'.2) (h.2 i hi)⟩
def Qft (md:Region.Mode)(ops:Array Oper)(k i:Nat):Bool:=(ops[k]?).elim false fun o=>o.after.any fun e=>Region.binds md e && e.on == i
theorem Qlg {i:Nat}{listed:Array Bool}(h:Qft md ops k i=true)(hi:i∈Region.ready md ops listed):k ∉ Region.ready md ops listed:=by
 intro hk;obtain ⟨_,o,ho,hall⟩:=mem_ready.1 hk;unfold Qft at h;rw [ho] at h;simp only [Option.elim,Array.any_eq_true',Bool.and_eq_true,beq_iff_eq] at h;obtain ⟨e,he,hb,hon⟩:=h;have h1:=hall e he hb;have h0:=(mem_ready.1 hi).1;rw [hon] at h1;simp only [Array.getD_eq_getD_getElem?] at h0 h1
 cases hx:listed[i]? with
 | none=>rw [hx] at h0;cases h0
 | some b=>rw [hx] at h0 h1;simp at h0 h1;rw [h0] at h1;cases h1
theorem Qpg {i:Nat}{oi:Oper}{v:Value} (hi:ops[i]?=some oi) (hsel:∀ (j:Nat) (o:Oper) cs b,ops[j]?=some o→o.op≠.select cs b)
 (hQ:∀ c a w,Q (.panic c) (a.put oi.dst v) w→Q (.panic c) a w) (hwk:Qft md ops k i=true) (hik:i≠k) :
 ∀ (fuel:Nat) (listed:Array Bool) (a:Act) (w:World),
  (∀ j oj,ops[j]?=some oj→j≠i→listed.getD j true=false→(∀ e∈oj.after,Region.binds md e=true→e.on≠i)→oi.apart ops oj=true) →
  i∈Region.ready md ops listed→YieldsIf P ops S oi v a→S w →
  Qdg P md ops Q S k fuel (listed.setIfInBounds i true) (a.put oi.dst v) w→Qdg P md ops Q S k (fuel+1) listed a w:=by
 intro fuel
 induction fuel with
 | zero =>
  intro listed a w _ hr hy hS H;refine ⟨fun h=>(by rw [h] at hr;cases hr),fun j hj=>?_⟩
  by_cases hji:j=i
  · subst hji
    refine hy.wpOp hi hS ?_;rw [if_neg hik];exact ⟨hS,H⟩
  · have:=ready_mono hj hji
    rw [H.1] at this
    cases this
 | succ fuel ih =>
  intro listed a w hfree hr hy hS H;refine ⟨fun h=>(by rw [h] at hr;cases hr),fun j hj=>?_⟩
  by_cases hji:j=i
  · subst hji
    refine hy.wpOp hi hS ?_;rw [if_neg hik];exact ⟨hS,H⟩
  · have hjk:j≠k:=fun e=>Qlg hwk hr (e▸hj)
    have h1:=H.2 j (ready_mono hj hji);obtain ⟨hjun,oj,hoj,hall⟩:=mem_ready.1 hj
    have hnot:∀ e∈oj.after,Region.binds md e=true→e.on≠i:=fun e he hb heq=>by
     exact Kcl
    have h2:=wpOp_putIf hoj (hfree j oj hoj hji hjun hnot) (fun cs b=>hsel i oi cs b hi) (fun cs b=>hsel j oj cs b hoj) hQ hy h1
    have hfree':∀ q oq,ops[q]?=some oq→q≠i→(listed.setIfInBounds j true).getD q true=false →
     (∀ e∈oq.after,Region.binds md e=true→e.on≠i)→oi.apart ops oq=true:=fun q oq hq hqi hun hno=>by
     refine hfree q oq hq hqi ?_ hno
     by_cases hjq:j=q
     · subst hjq;exact hjun
     · rw [getD_set_ne true hjq] at hun;exact hun
    refine wpOp_mono (fun a' w' h3=>?_) h2;rw [if_neg hjk] at h3 ⊢;refine ⟨h3.2.1,ih (listed.setIfInBounds j true) a' w' hfree' (ready_mono hr (Ne.symm hji)) h3.1 h3.2.1 ?_⟩;rw [Array.setIfInBounds_comm _ _ hji];exact h3.2.2
theorem takeK_ {i:Nat}{oi:Oper}{d:Option Tmp}{v:Value}{fuel:Nat}{listed:Array Bool}{a:Act}{w:World} (hi:ops[i]?=some oi) (hd:oi.dst=d)
 (hwk:Qft md ops k i=true) (hik:(i == k)=false) (hs:Region.noSelect ops=true) (hf:Region.free md ops listed i=true) (hr:(Region.ready md ops listed).contains i=true)
 (hQ:∀ c a w,Q (.panic c) (a.put oi.dst v) w→Q (.panic c) a w) (hw:Region.wanted oi (yielded ops a.tmps)=true) (hy:∀ w,S w→(execOp a.eval oi).run P w=.ok (.value v) w) (hS:S w)
 (h:Qdg P md ops Q S k fuel (listed.setIfInBounds i true) (a.put d v) w):Qdg P md ops Q S k (fuel+1) listed a w:=by
 subst hd;exact Qpg hi (Region.noSelect_spec hs) hQ hwk (by simpa using hik) fuel listed a w (Region.free_spec hi hf) (by simpa using hr) (Or.inl ⟨hw,hy⟩) hS h
theorem Qro {i:Nat}{oi:Oper}{v:Value} (hi:ops[i]?=some oi) (hsel:∀ (j:Nat) (o:Oper) cs b,ops[j]?=some o→o.op≠.select cs b)
 (hQ:∀ c a w,Q (.panic c) (a.put oi.dst v) w→Q (.panic c) a w) (hik:i≠k) :
 ∀ (fuel:Nat) (listed:Array Bool) (a:Act) (w:World),
  (∀ j oj,ops[j]?=some oj→j≠i→listed.getD j true=false→(∀ e∈oj.after,Region.binds md e=true→e.on≠i)→oi.apart ops oj=true) →
  i∈Region.ready md ops listed→YieldsIf P ops (fun _=>True) oi v a→S w →
  Qdg P md ops Q S k fuel (listed.setIfInBounds i true) (a.put oi.dst v) w→Qdg P md ops Q S k (fuel+1) listed a w:=by
 intro fuel
 induction fuel with
 | zero =>
  intro listed a w _ hr hy hS H;refine ⟨fun h=>(by rw [h] at hr;cases hr),fun j hj=>?_⟩
  by_cases hji:j=i
  · subst hji
    refine hy.wpOp hi trivial ?_;rw [if_neg hik];exact ⟨hS,H⟩
  · have:=ready_mono hj hji
    rw [H.1] at this
    cases this
 | succ fuel ih =>
  intro listed a w hfree hr hy hS H;refine ⟨fun h=>(by rw [h] at hr;cases hr),fun j hj=>?_⟩
  by_cases hji:j=i
  · subst hji
    refine hy.wpOp hi trivial ?_;rw [if_neg hik];exact ⟨hS,H⟩
  · have h1:=H.2 j (ready_mono hj hji)
    obtain ⟨hjun,oj,hoj,hall⟩:=mem_ready.1 hj
    have hnot:∀ e∈oj.after,Region.binds md e=true→e.on≠i:=fun e he hb heq=>by
     exact Kcl
    have h2:=wpOp_putIf hoj (hfree j oj hoj hji hjun hnot) (fun cs b=>hsel i oi cs b hi) (fun cs b=>hsel j oj cs b hoj) hQ hy h1
    have hfree':∀ q oq,ops[q]?=some oq→q≠i→(listed.setIfInBounds j true).getD q true=false →
     (∀ e∈oq.after,Region.binds md e=true→e.on≠i)→oi.apart ops oq=true:=fun q oq hq hqi hun hno=>by
     refine hfree q oq hq hqi ?_ hno
     by_cases hjq:j=q
     · subst hjq;exact hjun
     · rw [getD_set_ne true hjq] at hun;exact hun
    refine wpOp_mono (fun a' w' h3=>?_) h2
    by_cases hjk:j=k
    · rw [if_pos hjk] at h3 ⊢
      refine wpAny_first hi hsel hQ fuel (listed.setIfInBounds j true) a' w' hfree' (ready_mono hr (Ne.symm hji)) (h3.1.imp (fun ⟨ha,hb⟩=>⟨ha,fun w=>hb w trivial⟩) id) ?_;rw [Array.setIfInBounds_comm _ _ hji];exact h3.2
    · rw [if_neg hjk] at h3 ⊢
      refine ⟨h3.2.1,ih (listed.setIfInBounds j true) a' w' hfree' (ready_mono hr (Ne.symm hji)) h3.1 h3.2.1 ?_⟩;rw [Array.setIfInBounds_comm _ _ hji];exact h3.2.2
theorem takeF_ {i:Nat}{oi:Oper}{d:Option Tmp}{v:Value}{fuel:Nat}{listed:Array Bool}{a:Act}{w:World} (hi:ops[i]?=some oi) (hd:oi.dst=d)
 (hik:(i == k)=false) (hs:Region.noSelect ops=true) (hf:Region.free md ops listed i=true) (hr:(Region.ready md ops listed).contains i=true)
 (hQ:∀ c a w,Q (.panic c) (a.put oi.dst v) w→Q (.panic c) a w) (hw:Region.wanted oi (yielded ops a.tmps)=true) (hy:∀ w,True→(execOp a.eval oi).run P w=.ok (.value v) w) (hS:S w)
 (h:Qdg P md ops Q S k fuel (listed.setIfInBounds i true) (a.put d v) w):Qdg P md ops Q S k (fuel+1) listed a w:=by
 subst hd;exact Qro hi (Region.noSelect_spec hs) hQ (by simpa using hik) fuel listed a w (Region.free_spec hi hf) (by simpa using hr) (Or.inl ⟨hw,hy⟩) hS h
theorem tkK (i d:Nat){oi:Oper}{fuel:Nat}{listed:Array Bool}{a:Act}{w:World} (hi:ops[i]?=some oi:=by rfl) (hd:oi.dst=some d:=by rfl) (hwk:Qft md ops k i=true:=by kernel_rfl) (hik:(i == k)=false:=by rfl) (hs:Region.noSelect ops=true:=by kernel_rfl)
 (hf:Region.free md ops listed i=true:=by kernel_rfl) (hr:(Region.ready md ops listed).contains i=true:=by kernel_rfl) (hQ:∀ c a w v,Q (.panic c) (a.put oi.dst v) w→Q (.panic c) a w:=by exact fun _ _ _ _ h=>h) (hw:Region.wanted oi (yielded ops a.tmps)=true:=by rfl) (hS:S w:=by first|rfl|trivial|assumption)
 (h:∃ v,(∀ w,S w→(execOp a.eval oi).run P w=.ok (.value v) w)∧Qdg P md ops Q S k fuel (listed.setIfInBounds i true) (a.put (some d) v) w):Qdg P md ops Q S k (fuel+1) listed a w:=by
 obtain ⟨v,h1,h2⟩:=h;exact takeK_ (i:=i) (d:=some d) (v:=v) hi hd hwk hik hs hf hr (fun c a w=>hQ c a w v) hw h1 hS h2
theorem tkF (i d:Nat){oi:Oper}{fuel:Nat}{listed:Array Bool}{a:Act}{w:World} (hi:ops[i]?=some oi:=by rfl) (hd:oi.dst=some d:=by rfl) (hik:(i == k)=false:=by rfl) (hs:Region.noSelect ops=true:=by kernel_rfl)
 (hf:Region.free md ops listed i=true:=by kernel_rfl) (hr:(Region.ready md ops listed).contains i=true:=by kernel_rfl) (hQ:∀ c a w v,Q (.panic c) (a.put oi.dst v) w→Q (.panic c) a w:=by exact fun _ _ _ _ h=>h) (hw:Region.wanted oi (yielded ops a.tmps)=true:=by rfl) (hS:S w:=by first|rfl|trivial|assumption)
 (h:∃ v,(∀ w,True→(execOp a.eval oi).run P w=.ok (.value v) w)∧Qdg P md ops Q S k fuel (listed.setIfInBounds i true) (a.put (some d) v) w):Qdg P md ops Q S k (fuel+1) listed a w:=by
 obtain ⟨v,h1,h2⟩:=h;exact takeF_ (i:=i) (d:=some d) (v:=v) hi hd hik hs hf hr (fun c a w=>hQ c a w v) hw h1 hS h2
theorem Qcc {o:Oper}{fuel:Nat}{listed:Array Bool}{a:Act}{w:World} (hr:Region.ready md ops listed=[k]) (ho:ops[k]?=some o)
 (h:∀ K':Act→World→Prop,Shut (∀ a w,wpAny P md ops Q fuel (listed.setIfInBounds k true) a w→K' a w)→if Region.wanted o (yielded ops a.tmps)=true then Oper.wp P o a w K' Q else K' (a.put o.dst undef) w) :
 Qdg P md ops Q S k (fuel+1) listed a w:=by
 refine ⟨fun h0=>(by rw [hr] at h0;cases h0),fun j hj=>?_⟩
 rw [hr] at hj;obtain rfl:j=k:=by simpa using hj
 refine wpOp_step ho (fun K' hK=>h K' (fun a w hW=>hK a w ?_));rw [if_pos rfl];exact hW
theorem Qbl {i:Nat}{o:Oper}{fuel:Nat}{listed:Array Bool}{a:Act}{w:World} (hr:Region.ready md ops listed=[i]) (hik:(i == k)=false) (ho:ops[i]?=some o)
 (h:∀ K':Act→World→Prop,Shut (∀ a w,S w→(S w→Qdg P md ops Q S k fuel (listed.setIfInBounds i true) a w)→K' a w)→if Region.wanted o (yielded ops a.tmps)=true then Oper.wp P o a w K' Q else K' (a.put o.dst undef) w) :
 Qdg P md ops Q S k (fuel+1) listed a w:=by
 refine ⟨fun h0=>(by rw [hr] at h0;cases h0),fun j hj=>?_⟩
 rw [hr] at hj;obtain rfl:j=i:=by simpa using hj
 refine wpOp_step ho (fun K' hK=>h K' (fun a w hS hW=>hK a w ?_));rw [if_neg (by simpa using hik)];exact ⟨hS,hW hS⟩
theorem Qbw {listed:Array Bool}{a:Act}{w:World} (hr:Region.ready md ops listed=[]) (h:Q .normal a w):∀ fuel,wpAny P md ops Q fuel listed a w
 | 0=>⟨hr,h⟩
 | _+1=>⟨fun _=>h,by rw [hr];simp⟩
theorem Qbm (k:Nat){id:Nat}{a:Act}{w:World}(hm:P.follows .mixedOrders=true)(hS:S w.drew)
 (h:S w.drew→Qdg P .any ops Q S k ops.size (Array.replicate ops.size false) a w.drew):(Code.region id ops true).wp P Q a w :=
 wp_region_any hm (Qmq _ _ _ _ (h hS))
end
attribute [local go_sem ↓] Go.wp_at_zero Go.wp_at_succ
def hAh (x y:Int)(a b:Nat):Bool:=if x≠y then decide (x<y) else decide (a<b)
theorem hAh_t {x y:Int}{a b:Nat}(h:hAh x y a b=true):x≤y:=by
 unfold hAh at h
 by_cases e:x=y
 · omega
 · rw [if_pos e] at h;have:=of_decide_eq_true h;omega
theorem hAh_f {x y:Int}{a b:Nat}(h:hAh x y a b=false):y≤x:=by
 unfold hAh at h
 by_cases e:x=y
 · omega
 · rw [if_pos e] at h;have:=of_decide_eq_false h;omega
section
variable {G:Nat→Prop} {g gc gs gr n m c:Nat} {R:List Nat} {C:List Int} {S:List Nat}
set_option maxHeartbeats 1000000 in
theorem Qmj (w:World) (h:Qbk w G g (some ⟨gr,0,none⟩) gc gs n m c R C S) {i j a b:Nat} {x y:Int} (hi:R[i]?=some a) (hj:R[j]?=some b) (hx:C[a]?=some x) (hy:C[b]?=some y) (hn:b<n) :
 Calls prog 185 #[.pointer (some ⟨g,0,none⟩),.int .i64 i,.int .i64 j] w fun e w'=>e=.returned (.bool (hAh x y a b))∧Below w.heap.size w w':=by
 obtain ⟨hm,hcc⟩:=h.cap;have hn0:=h.n0;have hia:=(Zs hi).1;have hjb:=(Zs hj).1;have hxa:=(Zs hx).1;have hlr:=h.lr;have hlc:=h.lc;have HS:=Zh (show ∀ V,Below w.heap.size w V→Qbk V G g (some ⟨gr,0,none⟩) gc gs n m c R C S from fun V hV=>h.keep hV)
 have i1:(0:Int)≤(i:Int):=by omega
 have i2:(i:Int)<(m:Int):=by omega
 have i3:(0:Int)≤(j:Int):=by omega
 have i4:(j:Int)<(m:Int):=by omega
 have i5:(0:Int)≤(a:Int):=by omega
 have i6:(a:Int)<(n:Int):=by omega
 have i7:(0:Int)≤(b:Int):=by omega
 have i8:(b:Int)<(n:Int):=by omega
 have HSX:=Zh (show ∀ V,Below w.heap.size w V→V.cell? ⟨g,0,none⟩=some (.slice (some ⟨gr,0,none⟩) m c)∧V.cell? ⟨g,1,none⟩=some (.slice (some ⟨gc,0,none⟩) n n)∧V.cell? ⟨gr,i,none⟩=some (.int .i64 a)∧V.cell? ⟨gr,j,none⟩=some (.int .i64 b)∧V.cell? ⟨gc,a,none⟩=some (.int .i64 x)∧V.cell? ⟨gc,b,none⟩=some (.int .i64 y) from
  fun V hV=>⟨(h.keep hV).f0,(h.keep hV).f1,(h.keep hV).rowAt hi,(h.keep hV).rowAt hj,(h.keep hV).costAt hx,(h.keep hV).costAt hy⟩)
 have f0:=h.f0;have f1:=h.f1;have r1:=h.rowAt hi;have r2:=h.rowAt hj;have q1:=h.costAt hx;have q2:=h.costAt hy;clear h hi hj hx hy HS
 go_enter func185,ntmps185
 go_wp2_with fail
 refine wp_region_held_drew (S:=fun V=>Below w.heap.size w V) (by kernel_rfl) (Zr _ _).drew (fun _=>?_);refine tz 0 9 ?_;refine tz 1 10 ?_;refine tz 2 11 ?_;refine tz 3 12 ?_;refine tz 4 13 ?_;refine tz 5 14 ?_;refine tz 6 15 ?_;refine tz 7 16 ?_;refine tz 8 17 ?_;refine tz 9 18 ?_;refine tz 10 19 ?_;refine tz 11 20 ?_;refine tz 12 21 ?_;refine tz 13 22 ?_;refine tz 14 7 ?_;refine tz 15 8 ?_;refine Zd ?_
 go_wp2_with fail
 refine wp_region_held_drew (S:=fun V=>Below w.heap.size w V) (by kernel_rfl) (Zr _ _).drew.drew (fun _=>?_);refine tz 0 23 ?_;refine tz 1 24 ?_;refine tz 2 25 ?_;refine tz 3 26 ?_;refine tz 4 27 ?_;refine tz 5 28 ?_;refine tz 6 29 ?_;refine tz 7 30 ?_;refine tz 8 31 ?_;refine tz 9 32 ?_;refine tz 10 33 ?_;refine tz 11 34 ?_;refine tz 12 35 ?_;refine tz 13 36 ?_;refine tz 14 37 ?_;refine Zd ?_
 by_cases hxy:x=y
 · have e1:(x == y)=true:=by simp [hxy]
   go_wp2_with fail
   go_ret
   exact ⟨Qbh (by simp [hAh,hxy]),Qag⟩
 · have e1:(x == y)=false:=by simp [hxy]
   go_wp2_with fail
   refine wp_region_held_drew (S:=fun V=>Below w.heap.size w V) (by kernel_rfl) (Zr _ _).drew.drew.drew (fun _=>?_);refine tz 0 38 ?_;refine tz 1 39 ?_;refine tz 2 40 ?_;refine tz 3 41 ?_;refine tz 4 42 ?_;refine tz 5 43 ?_;refine tz 6 44 ?_;refine tz 7 45 ?_;refine tz 8 46 ?_;refine tz 9 47 ?_;refine tz 10 48 ?_;refine tz 11 49 ?_;refine tz 12 50 ?_;refine tz 13 51 ?_;refine tz 14 52 ?_;refine tz 15 6 ?_;refine Zd ?_
   go_wp2_with fail
   go_ret
   exact ⟨Qbh (by simp [hAh,hxy]),Qag⟩
set_option maxHeartbeats 2000000 in
theorem Qkh (w:World) (h:Qbk w G g (some ⟨gr,0,none⟩) gc gs n m c R C S) {i j a b:Nat} (hi:R[i]?=some a) (hj:R[j]?=some b) (ha:a<n) (hb:b<n) :
 Calls prog 150 #[.pointer (some ⟨g,0,none⟩),.int .i64 i,.int .i64 j] w fun e w'=>e=.returned (.tuple #[])∧Qbk w' G g (some ⟨gr,0,none⟩) gc gs n m c (Qea R i j) C (Qjl R S i j)∧Aft G w w':=by
 have hm:=h.cap.1;have hcc:=h.cap.2;have hn0:=h.n0;have hia:=(Zs hi).1;have hjb:=(Zs hj).1;have hlr:=h.lr;have hls:=h.ls;have i1:(0:Int)≤(i:Int):=by omega
 have i2:(i:Int)<(m:Int):=by omega
 have i3:(0:Int)≤(j:Int):=by omega
 have i4:(j:Int)<(m:Int):=by omega
 have i5:(0:Int)≤(a:Int):=by omega
 have i6:(a:Int)<(n:Int):=by omega
 have i7:(0:Int)≤(b:Int):=by omega
 have i8:(b:Int)<(n:Int):=by omega
 have f0:=h.f0;have f2:=h.f2;have r1:=h.rowAt hi;have r2:=h.rowAt hj;have z1:w.frozen? ⟨gr,i,none⟩=false:=h.fzR;have z2:w.frozen? ⟨gr,j,none⟩=false:=h.fzR;have hR1:Qea R i j=(R.set i b).set j a:=by unfold Qea;rw [Qcp hi,Qcp hj]
 have hS1:Qjl R S i j=(S.set b (i+1)).set a (j+1):=by unfold Qjl;rw [Qcp hi,Qcp hj]
 have hw1:=h.setR (i:=i) (k:=b)
 have g1:(R.set i b)[j]?=some b:=by
  rw [List.getElem?_set]
  by_cases e:i=j
  · subst e;simp [hia]
  · rw [if_neg e];exact hj
 have r3:=hw1.rowAt g1;have hw2:=hw1.setR (i:=j) (k:=a)
 have g2:((R.set i b).set j a)[i]?=some b:=by
  rw [List.getElem?_set]
  by_cases e:j=i
  · subst e;rw [hi] at hj;cases hj;simp [hia]
  · rw [if_neg e];simp [hia]
 have g3:((R.set i b).set j a)[j]?=some a:=by simp [hjb]
 have HW2:=Zh hw2;have HF:=Zh ((h.dA gr rfl).2.2.2);clear h hw1 hw2
 go_enter func150,ntmps150
 go_wp2_with fail
 refine Qbm 25 (S:=fun V=>V.cell? ⟨g,0,none⟩=some (.slice (some ⟨gr,0,none⟩) m c)∧V.cell? ⟨gr,i,none⟩=some (.int .i64 a)∧V.cell? ⟨gr,j,none⟩=some (.int .i64 b)) (by kernel_rfl) ⟨f0,r1,r2⟩ (fun _=>?_);refine tkF 0 6 (h:=⟨_,tv,?_⟩);simp only [pE,List.set];refine tkF 1 7 (h:=⟨_,tv,?_⟩);simp only [pE,List.set];refine tkF 2 8 (h:=⟨_,tv,?_⟩);simp only [pE,List.set];refine tkK 3 9 (h:=⟨_,tv,?_⟩);simp only [pE,List.set];refine tkF 4 10 (h:=⟨_,tv,?_⟩);simp only [pE,List.set];refine tkF 5 11 (h:=⟨_,tv,?_⟩);simp only [pE,List.set];refine tkF 6 12 (h:=⟨_,tv,?_⟩);simp only [pE,List.set];refine tkF 7 13 (h:=⟨_,tv,?_⟩);simp only [pE,List.set];refine tkK 8 14 (h:=⟨_,tv,?_⟩);simp only [pE,List.set];refine tkF 9 15 (h:=⟨_,tv,?_⟩);simp only [pE,List.set];refine tkF 10 16 (h:=⟨_,tv,?_⟩);simp only [pE,List.set];refine tkF 11 17 (h:=⟨_,tv,?_⟩);simp only [pE,List.set];refine tkF 12 18 (h:=⟨_,tv,?_⟩);simp only [pE,List.set];refine tkK 13 19 (h:=⟨_,tv,?_⟩);simp only [pE,List.set];refine tkF 14 20 (h:=⟨_,tv,?_⟩);simp only [pE,List.set];refine tkF 15 21 (h:=⟨_,tv,?_⟩);simp only [pE,List.set];refine tkK 16 22 (h:=⟨_,tv,?_⟩);simp only [pE,List.set];refine tkF 17 23 (h:=⟨_,tv,?_⟩);simp only [pE,List.set];refine tkF 18 24 (h:=⟨_,tv,?_⟩);simp only [pE,List.set];refine tkF 19 25 (h:=⟨_,tv,?_⟩);simp only [pE,List.set];refine tkK 20 26 (h:=⟨_,tv,?_⟩);simp only [pE,List.set];refine tkF 21 27 (h:=⟨_,tv,?_⟩);simp only [pE,List.set];refine tkF 22 28 (h:=⟨_,tv,?_⟩);simp only [pE,List.set];refine tkK 23 29 (h:=⟨_,tv,?_⟩);simp only [pE,List.set];refine tkF 24 30 (h:=⟨_,tv,?_⟩);simp only [pE,List.set];refine Qcc (k:=25) (by kernel_rfl) rfl (fun K hK=>?_);go_simp;refine hK.out _ _ ?_;clear hK K;refine wpAny_of_held (S:=fun _=>True) _ _ _ _ ?_;refine tz 26 31 ?_;refine Zk 27 (fun K hK=>?_);go_simp;refine hK.out _ _ trivial (fun _=>?_);clear hK K;refine Zd ?_;obtain ⟨W2,hW2⟩:∃ W2,W2=((w.setCell ⟨gr,i,none⟩ (.int .i64 b)).setCell ⟨gr,j,none⟩ (.int .i64 a)).drew:=⟨_,rfl⟩;have hh2:Qbk W2 G g (some ⟨gr,0,none⟩) gc gs n m c ((R.set i b).set j a) C S:=by rw [hW2];exact HW2.out.drew
 have ha2:Aft G w W2:=by rw [hW2];exact (((Aft.refl G w).set HF.out _).set HF.out _).drew
 have t0:W2.cell? ⟨g,0,none⟩=some (.slice (some ⟨gr,0,none⟩) m c):=hh2.f0;have t2:W2.cell? ⟨g,2,none⟩=some (.slice (some ⟨gs,0,none⟩) n n):=hh2.f2;have u1:=hh2.rowAt g2;have hw3:=hh2.setS (i:=b) (k:=i+1);have hw4:=hw3.drew.setS (i:=a) (k:=j+1);have p0:=hw3.drew.f0;have p2:=hw3.drew.f2;have q1:=hw3.drew.rowAt g3;have HW4:=Zh hw4;have HG:=Zh hh2.dG.2.2;have HA:=Zh ha2;have e2:((i+1:Nat):Int)=(i:Int)+1:=by omega
 have e3:((j+1:Nat):Int)=(j:Int)+1:=by omega
 have y1:W2.frozen? ⟨gs,b,none⟩=false:=hh2.ss.frozen b;have y2:W2.frozen? ⟨gs,a,none⟩=false:=hh2.ss.frozen a;have x1:∃ v,W2.cell? ⟨gs,b,none⟩=some v:=⟨_,hh2.seatAt (Qbp 0 (by omega))⟩;have x2:∃ v,(W2.setCell ⟨gs,b,none⟩ (.int .i64 ((i+1:Nat):Int))).drew.cell? ⟨gs,a,none⟩=some v:=⟨_,hw3.drew.seatAt (Qbp 0 (by rw [Yq];omega))⟩;obtain ⟨v1,x1⟩:=x1;obtain ⟨v2,x2⟩:=x2;rw [e2] at x2 p0 p2 q1;rw [←hW2];clear HW2 hW2 hh2 ha2 hw3 hw4 r1 r2 r3 f0 f2 z1 z2
 go_wp2_with fail
 refine Qbm 14 (S:=fun V=>V.cell? ⟨g,0,none⟩=some (.slice (some ⟨gr,0,none⟩) m c)∧V.cell? ⟨g,2,none⟩=some (.slice (some ⟨gs,0,none⟩) n n)∧V.cell? ⟨gr,i,none⟩=some (.int .i64 b)) (by kernel_rfl) ⟨t0,t2,u1⟩ (fun _=>?_);refine tkF 0 32 (h:=⟨_,tv,?_⟩);simp only [pE,List.set];refine tkF 1 33 (h:=⟨_,tv,?_⟩);simp only [pE,List.set];refine tkF 2 34 (h:=⟨_,tv,?_⟩);simp only [pE,List.set];refine tkK 3 35 (h:=⟨_,tv,?_⟩);simp only [pE,List.set];refine tkF 4 36 (h:=⟨_,tv,?_⟩);simp only [pE,List.set];refine tkF 5 37 (h:=⟨_,tv,?_⟩);simp only [pE,List.set];refine tkF 6 38 (h:=⟨_,tv,?_⟩);simp only [pE,List.set];refine tkK 7 39 (h:=⟨_,tv,?_⟩);simp only [pE,List.set];refine tkF 8 40 (h:=⟨_,tv,?_⟩);simp only [pE,List.set];refine tkF 9 41 (h:=⟨_,tv,?_⟩);simp only [pE,List.set];refine tkK 10 42 (h:=⟨_,tv,?_⟩);simp only [pE,List.set];refine tkF 11 43 (h:=⟨_,tv,?_⟩);simp only [pE,List.set];refine tkF 12 44 (h:=⟨_,tv,?_⟩);simp only [pE,List.set];refine tkF 13 45 (h:=⟨_,tv,?_⟩);simp only [pE,List.set];refine Qcc (k:=14) (by kernel_rfl) rfl (fun K hK=>?_);go_simp;refine hK.out _ _ ?_;clear hK K;refine Qbw (by kernel_rfl) ?_ _;have e4:IntKind.i64.wrap ((i:Int)+1)=(i:Int)+1:=IntWalk.i64_in _ (by omega);have e5:IntKind.i64.wrap ((j:Int)+1)=(j:Int)+1:=IntWalk.i64_in _ (by omega);rw [e4];obtain ⟨W3,hW3⟩:∃ W3,W3=(W2.setCell ⟨gs,b,none⟩ (.int .i64 ((i:Int)+1))).drew:=⟨_,rfl⟩;have y3:W3.frozen? ⟨gs,a,none⟩=false:=by rw [hW3];rw [e2] at HW4;exact (HW4.out.ss.frozen a).symm.trans (by simp) |>.symm.trans (by simp)
 rw [←hW3] at x2 p0 p2 q1;rw [e2,←hW3] at HW4;have HA3:=Zh (show Aft G w W3 by rw [hW3];exact (HA.out.set HG.out _).drew)
 rw [←hW3];clear hW3 HA t0 t2 u1 x1 y1 y2
 go_wp2_with fail
 refine Qbm 14 (S:=fun V=>V.cell? ⟨g,0,none⟩=some (.slice (some ⟨gr,0,none⟩) m c)∧V.cell? ⟨g,2,none⟩=some (.slice (some ⟨gs,0,none⟩) n n)∧V.cell? ⟨gr,j,none⟩=some (.int .i64 a)) (by kernel_rfl) ⟨p0,p2,q1⟩ (fun _=>?_);refine tkF 0 46 (h:=⟨_,tv,?_⟩);simp only [pE,List.set];refine tkF 1 47 (h:=⟨_,tv,?_⟩);simp only [pE,List.set];refine tkF 2 48 (h:=⟨_,tv,?_⟩);simp only [pE,List.set];refine tkK 3 49 (h:=⟨_,tv,?_⟩);simp only [pE,List.set];refine tkF 4 50 (h:=⟨_,tv,?_⟩);simp only [pE,List.set];refine tkF 5 51 (h:=⟨_,tv,?_⟩);simp only [pE,List.set];refine tkF 6 52 (h:=⟨_,tv,?_⟩);simp only [pE,List.set];refine tkK 7 53 (h:=⟨_,tv,?_⟩);simp only [pE,List.set];refine tkF 8 54 (h:=⟨_,tv,?_⟩);simp only [pE,List.set];refine tkF 9 55 (h:=⟨_,tv,?_⟩);simp only [pE,List.set];refine tkK 10 56 (h:=⟨_,tv,?_⟩);simp only [pE,List.set];refine tkF 11 57 (h:=⟨_,tv,?_⟩);simp only [pE,List.set];refine tkF 12 58 (h:=⟨_,tv,?_⟩);simp only [pE,List.set];refine tkF 13 59 (h:=⟨_,tv,?_⟩);simp only [pE,List.set];refine Qcc (k:=14) (by kernel_rfl) rfl (fun K hK=>?_);go_simp;refine hK.out _ _ ?_;clear hK K;refine Qbw (by kernel_rfl) ?_ _
 go_wp2_with fail
 go_end0
 refine ⟨rfl,?_,(HA3.out.set HG.out _).drew⟩;rw [hR1,hS1,←e3];exact HW4.out.drew
end
end Go.Proofs.YtdheeddnkdhfeaaGreatDoor
namespace Go.Proofs.YtdheeddnkdhfeaaGreatDoor
theorem Ord.congr {c c':Nat→Int}{len:Nat}(h:Ord c len)(e:∀ x,x<len→c' x=c x):Ord c' len:=fun i h0 hl=>by rw [e i hl,e _ (by omega)];exact h i h0 hl
theorem UpO.congr {c c':Nat→Int}{len p:Nat}(h:UpO c len p)(e:∀ x,x<len→c' x=c x):UpO c' len p :=
 ⟨fun i h0 hl hn=>by rw [e i hl,e _ (by omega)];exact h.o i h0 hl hn,fun i h0 hl hp hq=>by rw [e i hl,e _ (by omega)];exact h.g i h0 hl hp hq⟩
theorem Qie.congr {c c':Nat→Int}{len p:Nat}(h:Qie c len p)(e:∀ x,x<len→c' x=c x):Qie c' len p :=
 ⟨fun i h0 hl hn=>by rw [e i hl,e _ (by omega)];exact h.o i h0 hl hn,fun i h0 hl hp hq=>by rw [e i hl,e _ (by omega)];exact h.g i h0 hl hp hq⟩
theorem Qqn {r:List Nat}{i j:Nat}(hi:i<r.length)(hj:j<r.length)(k:Nat):k∈Qea r i j↔k∈r:=by
 simp only [List.mem_iff_getElem?]
 constructor
 · rintro ⟨x,hx⟩
   rw [Qdn hi hj] at hx
   by_cases e:x=j
   · rw [if_pos e] at hx;exact ⟨_,hx⟩
   · rw [if_neg e] at hx
     by_cases e2:x=i
     · rw [if_pos e2] at hx;exact ⟨_,hx⟩
     · rw [if_neg e2] at hx;exact ⟨_,hx⟩
 · rintro ⟨x,hx⟩
   by_cases e:x=i
   · subst e;exact ⟨j,by rw [Qdn hi hj,if_pos rfl];exact hx⟩
   · by_cases e2:x=j
     · subst e2
       exact ⟨i,by rw [Qdn hi hj,if_neg (fun e3=>e e3.symm),if_pos rfl];exact hx⟩
     · exact ⟨x,by rw [Qdn hi hj,if_neg e2,if_neg e];exact hx⟩
theorem HpS.key {n:Nat}{r:List Nat}{cs:List Int}{st:List Nat}(h:HpS n r cs st){i:Nat}(hi:i<r.length):∃ k x,r[i]?=some k∧k<n∧cs[k]?=some x∧at_ r cs i=x:=by
 have h1:=Qbp 0 hi;have h2:=(h.seat i _ h1).1;refine ⟨_,_,h1,h2,Qbp 0 (by rw [h.lc];exact h2),rfl⟩
theorem Qjn:∀ (n:Nat)(l:List Nat),l.Nodup→(∀ k∈l,k<n)→l.length≤n
 | 0,l,_,h=>by
  cases l with
  | nil=>simp
  | cons a l=>exact absurd (h a (by simp)) (by omega)
 | n+1,l,hn,h=>by
  have h1:=Qjn n (l.erase n) (hn.erase n) (fun k hk=>by
   have h2:=h k (List.mem_of_mem_erase hk);have h3:k≠n:=fun e=>by rw [e] at hk;exact (List.Nodup.not_mem_erase hn) hk
   omega)
  have h4:l.length≤(l.erase n).length+1:=by
   rw [List.length_erase]
   split <;> omega
  omega
theorem HpS.le {n:Nat}{r:List Nat}{cs:List Int}{st:List Nat}(h:HpS n r cs st):r.length≤n:=by
 refine Qjn n r ?_ (fun k hk=>?_)
 · refine List.pairwise_iff_getElem.2 (fun i j hi hj hij e=>?_)
   have h1:=Zg hi;have h2:=Zg hj;rw [←e] at h2;exact absurd (h.nodup h1 h2) (by omega)
 · obtain ⟨i,hi⟩:=List.mem_iff_getElem?.1 hk
   exact (h.seat i k hi).1
theorem up_step {n p:Nat}{r:List Nat}{cs:List Int}{st:List Nat}(h:HpS n r cs st) (hu:UpO (at_ r cs) r.length p) (h0:0<p) (hl:p<r.length) (hc:at_ r cs p≤at_ r cs ((p-1) / 2)) :
 HpS n (Qea r p ((p-1) / 2)) cs (Qjl r st p ((p-1) / 2))∧UpO (at_ (Qea r p ((p-1) / 2)) cs) (Qea r p ((p-1) / 2)).length ((p-1) / 2) :=
 ⟨h.swap hl (by omega),by rw [Qfd];exact (hu.step h0 hl hc).congr (fun x hx=>Qyz hl (by omega) x hx)⟩
theorem Qzq {n p m:Nat}{r:List Nat}{cs:List Int}{st:List Nat}(h:HpS n r cs st) (hd:Qie (at_ r cs) r.length p) (h0:0<m) (hl:m<r.length) (hm:(m-1) / 2=p) (hc:at_ r cs m≤at_ r cs p) (ho:∀ i,0<i→i<r.length→(i-1) / 2=p→at_ r cs m≤at_ r cs i) :
 HpS n (Qea r p m) cs (Qjl r st p m)∧Qie (at_ (Qea r p m) cs) (Qea r p m).length m :=
 ⟨h.swap (by omega) hl,by rw [Qfd];exact (hd.step h0 hl hm hc ho).congr (fun x hx=>Qyz (by omega) hl x hx)⟩
end Go.Proofs.YtdheeddnkdhfeaaGreatDoor
namespace Go.Proofs.YtdheeddnkdhfeaaGreatDoor
open Go.RowKit Go.Proofs.Tryz
attribute [local go_sem ↓] Go.wp_at_zero Go.wp_at_succ
section
variable {G:Nat→Prop} {g gc gs gr n m c:Nat} {R:List Nat} {C:List Int} {S:List Nat}
set_option maxHeartbeats 1000000 in
theorem Rat (w:World) (h:Qbk w G g (some ⟨gr,0,none⟩) gc gs n m c R C S) (hp:HpS n R C S) (p:Nat) (hpm:p<m) (hu:UpO (at_ R C) m p) :
 Calls prog 149 #[.pointer (some ⟨g,0,none⟩),.int .i64 p] w fun e w'=>e=.returned (.tuple #[])∧∃ R' S',Qbk w' G g (some ⟨gr,0,none⟩) gc gs n m c R' C S'∧HpS n R' C S'∧Ord (at_ R' C) m∧(∀ k,k∈R'↔k∈R)∧Aft G w w':=by
 have hcap:=h.cap;have HH:=Zh h;have HP:=Zh hp;have HU:=Zh hu;clear h hp hu
 go_enter func149,ntmps149
 go_wp2_with fail
 go_loopw [1] (fun q W=>∃ (p:Nat) (R' S':List Nat),q=.int .i64 p∧p<m∧Qbk W G g (some ⟨gr,0,none⟩) gc gs n m c R' C S'∧HpS n R' C S'∧UpO (at_ R' C) m p∧(∀ k,k∈R'↔k∈R)∧Aft G w W) (fun q _=>(intOf q).toNat)
 case atStart=>exact ⟨p,R,S,rfl,hpm,HH.out,HP.out,HU.out,fun _=>Iff.rfl,Aft.refl _ _⟩
 case round =>
  obtain ⟨p,R',S',rfl,hpm,hw,hp,hu,hk,ha⟩:=hrel;have hlr:=hw.lr
  by_cases h0:p=0
  · subst h0
    have HW:=Zh hw;have HO:=Zh (hu.done (.inl rfl));have HQ:=Zh hp;have HK:=Zh hk;have HA:=Zh ha;clear hw hp hu hk ha
    go_wp2_with fail
    go_end0
    exact ⟨rfl,R',S',HW.out,HQ.out,HO.out,HK.out,HA.out⟩
  · have i1:(0:Int)<(p:Int):=by omega
    obtain ⟨a,x,ka,kb,kc,kd⟩:=hp.key (i:=p) (by omega);obtain ⟨b,y,la,lb,lc,ld⟩:=hp.key (i:=(p-1) / 2) (by omega);have HAH:=Zh (fun V (hV:Qbk V G g (some ⟨gr,0,none⟩) gc gs n m c R' C S')=>Qmj V hV ka la kc lc lb);have HST:=Zh (fun hc=>up_step hp (by rw [hlr];exact hu) (by omega) (by omega) hc);have HDN:=Zh (fun hc=>hu.done (.inr hc));have HSW:=Zh (fun V (hV:Qbk V G g (some ⟨gr,0,none⟩) gc gs n m c R' C S')=>Qkh V hV ka la kb lb);have HQ:=Zh hp;have HK:=Zh hk;have HW:=Zh hw;have HA:=Zh ha;have HKM:=Zh (Qqn (r:=R') (i:=p) (j:=(p-1) / 2) (by omega) (by omega));have HLT:=Zh hw.lt;clear hw hp hu hk ha ka kb kc la lb lc
    go_wp2_with fail
    rw [show ((p:Int)-1) / 2=(((p-1) / 2:Nat):Int) by omega]
    with_reducible refine (HAH.out _ HW.out).mono ?_
    rintro e w' ⟨rfl,hb⟩;have hw':=HW.out.keep hb;have HW':=Zh hw';have HA':=Zh (HA.out.trans (Aft.below hb HLT.out));clear hw' hb HW HA HAH
    cases hah:hAh x y a b with
    | false =>
     have HO:=Zh (HDN.out (by rw [kd,ld];exact hAh_f hah))
     go_wp2_with fail
     go_end0
     exact ⟨rfl,R',S',HW'.out,HQ.out,HO.out,HK.out,HA'.out⟩
    | true =>
     have HS':=Zh (HST.out (by rw [kd,ld];exact hAh_t hah))
     go_wp2_with fail
     rw [show ((p:Int)-1) / 2=(((p-1) / 2:Nat):Int) by omega]
     with_reducible refine (HSW.out _ HW'.out).mono ?_
     rintro e w'' ⟨rfl,hw2,ha2⟩;have HW2:=Zh hw2;have HA2:=Zh (HA'.out.trans ha2);clear hw2 ha2 HW' HA' HSW
     go_wp2_with fail
     go_roundw
     case rel=>exact ⟨(p-1) / 2,_,_,by rw [show ((p:Int)-1) / 2=(((p-1) / 2:Nat):Int) by omega],by omega,HW2.out,HS'.out.1,by have:=HS'.out.2;rw [Qfd,hlr] at this;exact this,fun k=>(HKM.out k).trans (HK.out k),HA2.out⟩
     case measure=>simp [intOf];omega
set_option maxHeartbeats 2000000 in
theorem Rar (w:World) (h:Qbk w G g (some ⟨gr,0,none⟩) gc gs n m c R C S) (hp:HpS n R C S) (hd:Qie (at_ R C) m 0) :
 Calls prog 151 #[.pointer (some ⟨g,0,none⟩),.int .i64 0] w fun e w'=>e=.returned (.tuple #[])∧∃ R' S',Qbk w' G g (some ⟨gr,0,none⟩) gc gs n m c R' C S'∧HpS n R' C S'∧Ord (at_ R' C) m∧(∀ k,k∈R'↔k∈R)∧Aft G w w':=by
 have hcap:=h.cap;have hmn:m≤n:=by rw [←h.lr];exact hp.le
 have hn0:=h.n0;have HH:=Zh h;have HP:=Zh hp;have HD:=Zh hd;clear h hp hd
 go_enter func151,ntmps151
 go_wp2_with fail
 go_loopw [1] (fun q W=>∃ (p:Nat) (R' S':List Nat),q=.int .i64 p∧(p<m∨p=0)∧Qbk W G g (some ⟨gr,0,none⟩) gc gs n m c R' C S'∧HpS n R' C S'∧Qie (at_ R' C) m p∧(∀ k,k∈R'↔k∈R)∧Aft G w W) (fun q _=>m-(intOf q).toNat)
 case atStart=>exact ⟨0,R,S,rfl,.inr rfl,HH.out,HP.out,HD.out,fun _=>Iff.rfl,Aft.refl _ _⟩
 case round =>
  obtain ⟨p,R',S',rfl,hpm,hw,hp,hd,hk,ha⟩:=hrel;have hlr:=hw.lr;have HQ:=Zh hp;have HDD:=Zh hd;have HK:=Zh hk;have HA:=Zh ha;have HW:=Zh hw;clear hw hp hd hk ha
  go_wp2_with fail
  go_loopw [4,5] (fun x y W=>Below wr.heap.size wr W∧∃ l j:Nat,x=.int .i64 l∧y=.int .i64 j∧2*p+1≤j∧j≤2*p+3∧(l=p∨(2*p+1≤l∧l<j∧l<m))∧at_ R' C l≤at_ R' C p∧∀ i,2*p+1≤i→i<j→i<m→at_ R' C l≤at_ R' C i) (fun _ y _=>2*p+3-(intOf y).toNat)
  case atStart=>exact ⟨Zr _ _,p,2*p+1,rfl,by go_num,by omega,by omega,.inl rfl,Int.le_refl _,fun i h1 h2=>by omega⟩
  case round =>
   obtain ⟨hb,l,j,rfl,rfl,h1,h2,h3,h4,h5⟩:=hrel;have HB:=Zh hb;have hwV:=HW.out.keep hb;have f0:=hwV.f0
   by_cases hj:j≤2*p+2∧j<m
   · obtain ⟨hj2,hjm⟩:=hj
     have i1:(j:Int)≤2*(p:Int)+2:=by omega
     have i2:(j:Int)<(m:Int):=by omega
     obtain ⟨a,x,ka,kb,kc,kd⟩:=HQ.out.key (i:=j) (by omega);obtain ⟨b,y,la,lb,lc,ld⟩:=HQ.out.key (i:=l) (by omega);have HAH:=Zh (Qmj _ hwV ka la kc lc lb);have H4:=Zh h4;have H5:=Zh h5;clear hb hwV ka kb kc la lb lc h4 h5
     go_wp2_with fail
     with_reducible refine HAH.out.mono ?_
     rintro e w' ⟨rfl,hb'⟩;have HB':=Zh (HB.out.trans (hb'.mono HB.out.size));clear hb' HB HAH
     cases hah:hAh x y a b with
     | false =>
      have hle:=hAh_f hah
      go_wp2_with fail
      go_roundw
      case rel =>
       refine ⟨HB'.out,l,j+1,rfl,by go_num,by omega,by omega,by omega,H4.out,fun i g1 g2 g3=>?_⟩
       by_cases e:i=j
       · subst e;rw [kd,ld];exact hle
       · exact H5.out i g1 (by omega) g3
      case measure=>simp [intOf];omega
     | true =>
      have hle:=hAh_t hah
      go_wp2_with fail
      go_roundw
      case rel =>
       refine ⟨HB'.out,j,j+1,rfl,by go_num,by omega,by omega,by omega,?_,fun i g1 g2 g3=>?_⟩
       · have:=H4.out;omega
       · by_cases e:i=j
         · subst e;exact Int.le_refl _
         · have:=H5.out i g1 (by omega) g3;omega
      case measure=>simp [intOf];omega
   · have HDN:=Zh (show ∀ i,0<i→i<m→(i-1) / 2=p→at_ R' C l≤at_ R' C i from fun i g1 g2 g3=>h5 i (by omega) (by omega) g2)
     have HW':=Zh hwV;have HA':=Zh (HA.out.trans (Aft.below HB.out HW.out.lt));have HX:((2*(p:Int)+2<(j:Int))∨((j:Int)≤2*(p:Int)+2∧(m:Int)≤(j:Int))):=by omega
     clear hb hwV h5 HB HW HA
     by_cases hlp:l=p
     · subst hlp
       have HO:=Zh (HDD.out.done HDN.out)
       rcases HX with hx|⟨hx,hy⟩
       · have e1:decide ((j:Int)≤2*(l:Int)+2)=false:=by simp;omega
         exact Kch
       · have e1:decide ((j:Int)<(m:Int))=false:=by simp;omega
         exact Kch
     · obtain ⟨a,x,ka,kb,kc,kd⟩:=HQ.out.key (i:=p) (by omega)
       obtain ⟨b,y,la,lb,lc,ld⟩:=HQ.out.key (i:=l) (by omega);have HSW:=Zh (Qkh _ HW'.out ka la kb lb);have HST:=Zh (Qzq HQ.out (p:=p) (m:=l) (by rw [hlr];exact HDD.out) (by omega) (by omega) (by omega) h4 (by rw [hlr];exact HDN.out));have HKM:=Zh (Qqn (r:=R') (i:=p) (j:=l) (by omega) (by omega));have hlp':¬(l:Int)=(p:Int):=by omega
       clear ka kb kc la lb lc
       rcases HX with hx|⟨hx,hy⟩
       · have e1:decide ((j:Int)≤2*(p:Int)+2)=false:=by simp;omega
         exact Kbf
       · have e1:decide ((j:Int)<(m:Int))=false:=by simp;omega
         exact Kbf
end
end Go.Proofs.YtdheeddnkdhfeaaGreatDoor
