/- Qbl of the proof: Gw, Rm, Ls, Pc. -/
import Derived.Test.YtkaaakbejnlbgaaGreatDoorD7
import Derived.Lib.SliceRun
set_option maxHeartbeats 2000000
set_option maxRecDepth 20000
namespace Go.Proofs.YtkaaakbejnlbgaaGreatDoor
open Go.RowKit Go.Proofs.Tryz
/-! Rows of Qbr, each of the call's own, as the cells of one block. -/
def IkG (t:TypeId)(W:World)(B g n:Nat) (ls:Lz):Prop :=
 ls.length=n∧g<B∧∃ cs,Blk W g t cs∧cs.size=n∧(∀ (v:Nat) (l:Iz),ls[v]?=some l→∃ A c,cs[v]?=some (.slice A l.length c)∧Own W B 3 1 A l.length c (Qae l)) ∧
  ∀ (v v':Nat) A m c A' m' c',v≠v'→cs[v]?=some (.slice A m c)→cs[v']?=some (.slice A' m' c')→Dj A A'
theorem IkG.start {t:TypeId}{W:World}{B g n:Nat}(hg:g<B) (h:Blk W g t (Qbg (.slice none 0 0) n)):IkG t W B g n (List.replicate n []):=by exact Kas
theorem IkG.grown {t:TypeId}{W W':World}{B g n:Nat}{r:Option Nat} {ls:Lz} (h:IkG t W B g n ls) (hg:W.grownBy W' r) (hr:∀ b,r=some b→b≠g∧b<B):IkG t W' B g n ls:=by
 obtain ⟨h1,h2,cs,h3,h4,h5,h6⟩:=h;refine ⟨h1,h2,cs,h3.grown hg (fun e=>(hr g e).1 rfl),h4,fun v l hl=>?_,h6⟩;obtain ⟨A,c,k1,k2⟩:=h5 v l hl;refine ⟨A,c,k1,k2.far hg ?_⟩
 cases hA:Qaa A with
 | none=>exact .inl rfl
 | some b =>refine .inr (fun e=>?_);have h8:=(k2.lt b hA).1;have h9:=(hr b e.symm).2;omega
theorem IkG.below {t:TypeId}{W W':World}{B g n:Nat} {ls:Lz} (h:IkG t W B g n ls) (hb:Bw W W'):IkG t W' B g n ls:=by exact Kbf
theorem IkG.row {t:TypeId}{W:World}{B g n u:Nat} {ls:Lz} (h:IkG t W B g n ls) (hu:u<n):∃ A c l,ls[u]?=some l∧W.cell? ⟨g,u,none⟩=some (.slice A l.length c)∧W.frozen? ⟨g,u,none⟩=false∧Own W B 3 1 A l.length c (Qae l):=by exact Kbc
theorem IkG.lt {t:TypeId}{W:World}{B g n:Nat} {ls:Lz} (h:IkG t W B g n ls):g<W.heap.size:=by obtain ⟨_,_,cs,h3,_⟩:=h;exact h3.lt
theorem IkG.push {t:TypeId}{W w':World}{B g n u c c':Nat}{A A':Oz} {ls:Lz} {l:Iz} {k:Int} (h:IkG t W B g n ls) (hl:ls[u]?=some l) (hc:W.cell? ⟨g,u,none⟩=some (.slice A l.length c))
 (hown:Own w' B 3 1 A' (l.length+1) c' (Qae l ++Qae [k])) (hg:W.grownBy w' (Qaa A)) (hat:Qaa A'=Qaa A∨Qaa A'=some W.heap.size) :
 IkG t (w'.setCell ⟨g,u,none⟩ (.slice A' (l.length+1) c')) B g n (ls.set u (l ++[k])):=by
 obtain ⟨h1,h2,cs,h3,h4,h5,h6⟩:=h;have hu:=(Zs hl).1;have hcs:cs[u]?=some (.slice A l.length c):=by rw [←h3.cell];exact hc
 exact Kah
theorem IkG.cellG {t:TypeId}{W w':World}{B g n u:Nat}{r:Option Nat} {ls:Lz} (h:IkG t W B g n ls) (hu:u<n) (hg:W.grownBy w' r) (hr:r≠some g):∃ v,w'.cell? ⟨g,u,none⟩=some v∧w'.frozen? ⟨g,u,none⟩=false:=by exact Kbl
theorem IkG.rdT {t:TypeId}{W:World}{B g n:Nat} {ls:Lz} (h:IkG t W B g n ls):RdT W (some ⟨g,0,none⟩) n ls:=by exact Kcd
theorem IkG.rdM {t:TypeId}{W:World}{G:Nat→Prop}{B g n:Nat} {ls:Lz} (h:IkG t W B g n ls) (hg:G g) (hB:∀ b,B≤b→b<W.heap.size→G b):RdT (msk W G) (some ⟨g,0,none⟩) n ls:=by exact Kbn
/-! Arcs of a row that are marked. -/
def Qwn (P:Tri→Bool)(l:List Tri):Iz:=(l.zipIdx.filter (fun p=>P p.1)).map (fun p=>(p.2:Int))
theorem Rdu (P:Tri→Bool)(l:List Tri)(a:Tri):Qwn P (l ++[a])=Qwn P l ++(if P a then [(l.length:Int)] else []):=by
 unfold Qwn;rw [List.zipIdx_append,List.filter_append,List.map_append];congr 1
 cases h:P a <;> simp [h]
theorem Rdv {P:Tri→Bool}{l:List Tri}{a:Tri}{k:Nat} (h:l[k]?=some a):Qwn P (l.take (k+1))=Qwn P (l.take k) ++(if P a then [(k:Int)] else []):=by have hlt:=(Zs h).1;rw [Yf hlt,(Zs h).2,Rdu,Yw,Nat.min_eq_left Oo]
theorem Qrf (P:Tri→Bool)(l:List Tri):(Qwn P l).length≤l.length:=by unfold Qwn;rw [List.length_map];refine Yx (List.length_filter_le _ _) ?_;simp
theorem mem_arcP {P:Tri→Bool}{l:List Tri}{x:Int}:x∈Qwn P l↔∃ (i:Nat) (a:Tri),x=(i:Int)∧l[i]?=some a∧P a=true:=by unfold Qwn;simp only [List.mem_map,List.mem_filter];exact Kbx
theorem Qnf (P:Tri→Bool):∀ l:List Tri,(Qwn P l).Pairwise (·<·):=by intro l;unfold Qwn;rw [List.pairwise_map];refine List.Pairwise.filter _ ?_;rw [List.pairwise_iff_getElem];intro i j hi hj hij;simp;exact hij
def Qad (l:Iz)(v:Int):Int:=l.getD v.toNat 0
theorem Qcf {l:Iz}{v:Nat}{p:Int} (h:l[v]?=some p):Qad l (v:Int)=p:=by unfold Qad;rw [Yl,Ya,h];rfl
def Qlt (l:Iz)(a:Tri):Bool:=Qad l a.1 != Qad l a.2.1
def Qbn (ar:List Tri)(l:Iz):Iz:=Qwn (Qlt l) ar
def toC (ar:List Tri)(l:Iz)(a:Int):Int:=Qad l (ar.getD a.toNat (0,0,0)).2.1
def frC (ar:List Tri)(l:Iz)(a:Int):Int:=Qad l (ar.getD a.toNat (0,0,0)).1
theorem Qys {ar:List Tri}{l:Iz}{a:Nat}{x:Tri} (h:ar[a]?=some x):toC ar l (a:Int)=Qad l x.2.1:=by unfold toC;rw [Yl,Ya,h];rfl
theorem Qxc {ar:List Tri}{l:Iz}{a:Nat}{x:Tri} (h:ar[a]?=some x):frC ar l (a:Int)=Qad l x.1:=by unfold frC;rw [Yl,Ya,h];rfl
def Qgj (t f:Int→Int)(X:Iz)(n:Nat):Lz:=(List.range (n*2)).map (fun i:Nat=>if i % 2=0 then X.filter (fun a=>t a == ((i / 2:Nat):Int)) else X.filter (fun a=>f a == ((i / 2:Nat):Int)))
theorem Qhf (t f:Int→Int)(X:Iz)(n:Nat):(Qgj t f X n).length=n*2:=by simp [Qgj]
theorem Qrs {t f:Int→Int}{X:Iz}{n c:Nat}(h:c<n):(Qgj t f X n)[c*2]?=some (X.filter (fun a=>t a == (c:Int))):=by unfold Qgj;rw [Yt,List.getElem?_range Oo];simp
theorem Qnr {t f:Int→Int}{X:Iz}{n c:Nat}(h:c<n):(Qgj t f X n)[c*2+1]?=some (X.filter (fun a=>f a == (c:Int))):=by unfold Qgj;rw [Yt,List.getElem?_range Oo,Option.map_some,if_neg Oo,show (c*2+1) / 2=c by omega]
theorem Rfe (t f:Int→Int)(n:Nat):Qgj t f [] n=List.replicate (n*2) []:=by
 apply List.ext_getElem?;intro i;rcases Nat.lt_or_ge i (n*2) with h|h
 {unfold Qgj;rw [Yt,List.getElem?_range h];simp [h]};{rw [Yd (by rw [Qhf];exact h),Yd (by simpa using h)]}
theorem Rbt {t f:Int→Int}{X:Iz}{n p q:Nat}{a:Int} (hp:t a=(p:Int)) (hq:f a=(q:Int)) (h1:p<n) (h2:q<n) :
 ((Qgj t f X n).set (p*2) (X.filter (fun a=>t a == (p:Int)) ++[a])).set (q*2+1) (X.filter (fun a=>f a == (q:Int)) ++[a])=Qgj t f (X ++[a]) n:=by
 apply List.ext_getElem?;intro i;rcases Nat.lt_or_ge i (n*2) with hi|hi
 {have hl:∀ Y,(Qgj t f Y n)[i]?=some (if i % 2=0 then Y.filter (fun a=>t a == ((i / 2:Nat):Int)) else Y.filter (fun a=>f a == ((i / 2:Nat):Int))):=fun Y=>by{unfold Qgj;rw [Yt,List.getElem?_range hi];rfl};by_cases e1:q*2+1=i;{subst e1;rw [Yg (by rw [Yq,Qhf];exact hi),Qnr h2,List.filter_append];simp [hq]};{rw [Yh e1];by_cases e2:p*2=i;{subst e2;rw [Yg (by rw [Qhf];exact hi),Qrs h1,List.filter_append];simp [hp]};{rw [Yh e2,hl,hl];(congr 1);(rcases Nat.mod_two_eq_zero_or_one i with h0|h0);{rw [if_pos h0,if_pos h0,List.filter_append];simp [hp];omega};{rw [if_neg Oo,if_neg Oo,List.filter_append];simp [hq];omega}}}};{rw [Yd (by rw [Yq,Yq,Qhf];exact hi),Yd (by rw [Qhf];exact hi)]}
abbrev Qap:=Iz×Iz
def RdC (w:World)(A:Oz)(n:Nat)(row:List Qap):Prop :=
 row.length=n∧∀ c x,row[c]?=some x→∃ b o A1 n1 c1 A2 n2 c2,A=some ⟨b,o,none⟩∧w.cell? ⟨b,o+c*2,none⟩=some (.slice A1 n1 c1)∧RdI w A1 n1 x.1∧w.cell? ⟨b,o+c*2+1,none⟩=some (.slice A2 n2 c2)∧RdI w A2 n2 x.2∧(n1≤c1∧c1≤9223372036854775807)∧n2≤c2∧c2≤9223372036854775807
theorem RdC.le {w w':World}{A:Oz}{n:Nat}{row:List Qap}(h:RdC w A n row)(hl:Le w w'):RdC w' A n row :=
 ⟨h.1,fun c x hx=>by
  obtain ⟨b,o,A1,n1,c1,A2,n2,c2,e,h1,h2,h3,h4,h5⟩:=h.2 c x hx;exact ⟨b,o,A1,n1,c1,A2,n2,c2,e,hl _ _ h1,h2.le hl,hl _ _ h3,h4.le hl,h5⟩⟩
theorem RdC.at_ {w:World}{A:Oz}{n c:Nat}{row:List Qap}(h:RdC w A n row)(hc:c<n):∃ x b o A1 n1 c1 A2 n2 c2,row[c]?=some x∧A=some ⟨b,o,none⟩∧w.cell? ⟨b,o+c*2,none⟩=some (.slice A1 n1 c1)∧RdI w A1 n1 x.1∧w.cell? ⟨b,o+c*2+1,none⟩=some (.slice A2 n2 c2)∧RdI w A2 n2 x.2∧(n1≤c1∧c1≤9223372036854775807)∧n2≤c2∧c2≤9223372036854775807:=by
 have hl:c<row.length:=by rw [h.1];exact hc
 obtain ⟨b,o,A1,n1,c1,A2,n2,c2,h1⟩:=h.2 c _ (Zg hl);exact ⟨_,b,o,A1,n1,c1,A2,n2,c2,Zg hl,h1⟩
def RdG (w:World)(A:Oz)(n:Nat) (gs:List (List Qap)):Prop :=
 gs.length=n∧∀ i row,gs[i]?=some row→∃ b o A' n' c',A=some ⟨b,o,none⟩∧w.cell? ⟨b,o+i,none⟩=some (.slice A' n' c')∧RdC w A' n' row∧n'≤c'∧c'≤9223372036854775807
theorem RdG.le {w w':World}{A:Oz}{n:Nat} {gs:List (List Qap)} (h:RdG w A n gs) (hl:Le w w'):RdG w' A n gs :=
 ⟨h.1,fun i row hx=>by
  obtain ⟨b,o,A',n',c',e,h1,h2,h3⟩:=h.2 i row hx;exact ⟨b,o,A',n',c',e,hl _ _ h1,h2.le hl,h3⟩⟩
theorem RdG.at_ {w:World}{A:Oz}{n i:Nat} {gs:List (List Qap)} (h:RdG w A n gs) (hi:i<n):∃ row b o A' n' c',gs[i]?=some row∧A=some ⟨b,o,none⟩∧w.cell? ⟨b,o+i,none⟩=some (.slice A' n' c')∧RdC w A' n' row∧n'≤c'∧c'≤9223372036854775807:=by
 have hl:i<gs.length:=by rw [h.1];exact hi
 obtain ⟨b,o,A',n',c',h1⟩:=h.2 i _ (Zg hl);exact ⟨_,b,o,A',n',c',Zg hl,h1⟩
def Qaf (ar:List Tri)(l:Iz):List Qap:=(List.range (Qay l).toNat).map (fun c:Nat=>((Qbn ar l).filter (fun a=>toC ar l a == (c:Int)),(Qbn ar l).filter (fun a=>frC ar l a == (c:Int))))
theorem Qau (ar:List Tri)(l:Iz):(Qaf ar l).length=(Qay l).toNat:=by simp [Qaf]
theorem Qdd {ar:List Tri}{l:Iz}{c:Nat} (h:c<(Qay l).toNat):(Qaf ar l)[c]?=some ((Qbn ar l).filter (fun a=>toC ar l a == (c:Int)),(Qbn ar l).filter (fun a=>frC ar l a == (c:Int))):=by unfold Qaf;rw [Yt,List.getElem?_range h];rfl
def Qah (ar:List Tri) (ls:Lz):List (List Qap):=ls.map (Qaf ar)
attribute [local go_sem ↓] Go.wp_at_zero Go.wp_at_succ
theorem Rcp (g a:Nat)(N:Qak)(A:Oz)(n c u v:Nat)(z p q:Int)(l:Iz)(w:World)(h:Qfg w g N)(hr:RdI w A n l) (hx:N.ar[a]?=some ((u:Int),(v:Int),z)) (hu:u<n) (hv:v<n) (hp:l[u]?=some p) (hq:l[v]?=some q) :
 Calls prog 218 #[.pointer (some ⟨g,0,none⟩),.slice A n c,.int .i64 a] w fun e w'=>e=.returned (.tuple #[.int .i64 p,.int .i64 q,.bool true])∧∃ k,w'=w.drewN k:=by
 have HF:=Zh (Qmp g a N _ w h hx);have HT:=Zh (Qjx g a N _ w h hx);obtain ⟨b,o,p',rfl,hp',cp⟩:=hr.at_ hu;rw [hp] at hp';cases hp';obtain ⟨b',o',q',e,hq',cq⟩:=hr.at_ hv;rw [hq] at hq';cases hq';cases e;have i1:0≤(u:Int):=Oo
 have i2:(u:Int)<n:=Oo
 have i3:0≤(v:Int):=Oo
 have i4:(v:Int)<n:=Oo
 clear h hr hx hp hq;go_enter func218,ntmps218
 go_wp2_with fail
 with_reducible refine HF.o.mono ?_
 rintro e w' ⟨rfl,rfl⟩;go_wp2_with fail
 with_reducible refine HT.o.mono ?_
 rintro e w' ⟨rfl,rfl⟩;go_wp2_with fail
 go_quiet (fail)
 go_wp2_with fail
 go_ret3
 exact ⟨rfl,_,rfl⟩
theorem cross_ok (g:Nat)(N:Qak)(Q:Oz)(L cq i n:Nat) (ls:Lz) (l:Iz) (w:World) (h:Qfg w g N) (hN:Qar N) (hq:RdT w Q L ls) (hl:ls[i]?=some l) (hL:L≤1000000) (hlo:Qgz n l) (hn:N.vs.length=n) :
 Calls prog 179 #[.pointer (some ⟨g,0,none⟩),.agg #[.slice Q L cq],.int .i64 ((i:Int)+1)] w fun e w'=>∃ A c,e=.returned (.slice A (Qbn N.ar l).length c)∧RdI w' A (Qbn N.ar l).length (Qbn N.ar l)∧(∀ b,Qaa A=some b→w.heap.size≤b∧b<w'.heap.size)∧Bw w w':=by
 have HG:=Zh h;have HN:=Zh hN;have hn4:n≤4096:=by rw [←hn];exact hN.lv
 have hm:N.ar.length≤16384:=hN.la;have HR:=Zh (show ∀ V,Bw w V→Calls prog 217 #[.agg #[.slice Q L cq],.int .i64 ((i:Int)+1)] V fun e w'=>∃ A n c,e=.returned (.slice A n c)∧RdI V A n l∧n≤c∧c≤9223372036854775807∧Bw V w' from fun V hV=>row_ok Q L cq i ls l V (hq.below hV) hl hL);have HLO:=Zh hlo;have HVN:=Zh hn;clear h hN hq hl hlo hn;go_enter func179,ntmps179
 go_wp2_with fail
 (refine Qab ?_;intro w1 hw1);have hb1:Bw w w1:=by rw [hw1];exact Qag
 clear hw1;with_reducible refine (HR.o w1 hb1).mono ?_
 rintro e w2 ⟨A,n',c,rfl,hr,q1,q2,hb2⟩;obtain rfl:n=n':=by rw [←hr.1];exact HLO.o.len.symm
 have hr2:=hr.below hb2;have hbw2:=Zb hb1 hb2;have hz0:=hbw2.size;clear hr hb2 hb1;go_wp2_with fail
 with_reducible refine (Qdj g N w2 (HG.o.below hbw2)).mono ?_
 rintro e w' ⟨rfl,rfl⟩;go_wp2_with fail
 generalize hM:N.ar.length=M at *;have HM:=Zh hM;clear hM;go_loopw [8,18] (fun x q W=>Bw w W∧w2.heap.size≤W.heap.size∧Bw w2 W∧∃ (j:Nat) (X:Oz) (k cx:Nat),j≤M∧q=.int .i64 j∧x=.slice X k cx∧k≤j∧Own W w2.heap.size 3 1 X k cx (Qae (Qwn (Qlt l) (N.ar.take j)))) (fun _ q _=>M-(intOf q).toNat)
 case atStart=>exact ⟨hbw2,Zn _,Zr _ _,0,none,0,0,Nat.zero_le _,rfl,rfl,Zn _,Own.nil _ _ _ _⟩
 case round =>
  clear hbw2;obtain ⟨hbl,hsz,hb2r,j,X,k,cx,hj,rfl,rfl,hkj,hown⟩:=hrel;by_cases hlt:j<M
  {obtain ⟨⟨fx,tx,zx⟩,hx⟩:∃ x,N.ar[j]?=some x:=⟨_,Zg (by rw [HM.o];exact hlt)⟩;(have hok:=HN.o.arcs _ (Zm hx);have f0:=hok.f0;have f1:=hok.f1;have g0:=hok.g0;have g1:=hok.g1;simp only at f0 f1 g0 g1;rw [HVN.o] at f1 g1;obtain ⟨u,rfl⟩:∃ u:Nat,fx=u:=⟨fx.toNat,Oo⟩;obtain ⟨v,rfl⟩:∃ v:Nat,tx=v:=⟨tx.toNat,Oo⟩;have hu:u<n:=Oo);(have hv:v<n:=Oo);(obtain ⟨p,hp⟩:∃ p,l[u]?=some p:=⟨_,Zg (by rw [HLO.o.len];exact hu)⟩;obtain ⟨q,hq⟩:∃ q,l[v]?=some q:=⟨_,Zg (by rw [HLO.o.len];exact hv)⟩;have HE:=Zh (Rcp g j N A n c u v zx p q l wr (HG.o.below hbl) (hr2.below hb2r) hx hu hv hp hq);have HNX:=Zh (Rdv (P:=Qlt l) hx);have hcb:Qlt l ((u:Int),(v:Int),zx)=(p != q):=by unfold Qlt;simp only;rw [Qcf hp,Qcf hq]);rw [hcb] at HNX;clear hx hok hcb hp hq;(go_wp2_with fail);(with_reducible refine HE.o.mono ?_);(rintro e w4 ⟨rfl,nq,hw4⟩;have hbl4:Bw w w4:=by rw [hw4];exact Qbd hbl _);(have hb24:Bw w2 w4:=by rw [hw4];exact Qbd hb2r _);(have hsz4:w2.heap.size≤w4.heap.size:=by rw [hw4];exact hsz);(have hown4:Own w4 w2.heap.size 3 1 X k cx (Qae (Qwn (Qlt l) (N.ar.take j))):=by rw [hw4];exact hown);clear hw4 hbl hb2r hsz hown HE;by_cases hpq:p=q;{(have e1:(p != q)=false:=by simpa using hpq);(have e2:(p == q)=true:=by simpa using hpq);rw [e1] at HNX;clear hpq;(go_wp2_with fail);go_roundw;(case rel=>exact ⟨hbl4,hsz4,hb24,j+1,X,k,cx,Oo,by go_num,rfl,Oo,by rw [HNX.o];simpa using hown4⟩);case measure=>simp [intOf];omega};{(have e1:(p != q)=true:=by simpa using hpq);(have e2:(p == q)=false:=by simpa using hpq);rw [e1] at HNX;clear hpq;have hlt4:Bw w4 (w4.alloc (.cells #[.int .i64 (j:Int)] 3)):=Qag;have hownA:=hown4.below hlt4;have hrA:Rds (w4.alloc (.cells #[.int .i64 (j:Int)] 3)) 1 (some ⟨w4.heap.size,0,none⟩) 1 (Qae [(j:Int)]):=(Blk.new w4 3 (Qbr [(j:Int)])).rds rfl;have hblA:=Zb hbl4 hlt4;have hb2A:=Zb hb24 hlt4;(go_wp2_with (at_builtin;with_reducible refine Qam rfl (.tmp 35) (.tmp 37) 64 rfl 3 _ 1 8 Qbm underlying64 rfl Oo rfl rfl hownA hrA (Qaq _) Oo Oo (by simp;omega) ?_));intro A' c' w' hown' hg _;have hbl5:Bw w w':=Zo hblA hg (hownA.mono Oo) (by simp;omega);have hb25:Bw w2 w':=Zo hb2A hg hownA (by simp;omega);have hsz5:w2.heap.size≤w'.heap.size:=hb25.size;have HO:=Zh hown';clear hown' hg hownA hrA hblA hb2A hlt4 hown4 hbl4 hb24 hsz4;go_wp2;go_roundw;(case rel=>exact ⟨hbl5,hsz5,hb25,j+1,A',k+1,c',Oo,by go_num,rfl,Oo,by rw [HNX.o,if_pos trivial,Qbq];exact HO.o⟩);case measure=>simp [intOf];omega}};{(obtain rfl:M=j:=Oo);(rw [Ye (by rw [HM.o];exact Zn _)] at hown;have HO:=Zh hown;have hk:k=(Qbn N.ar l).length:=by have:=hown.1;rw [Nat.mul_one] at this;rw [←this];simp [Qae,Qbn]);have HK:=Zh hk;clear hown hk;go_wp2;go_ret;exact ⟨X,cx,by rw [←HK.o];rfl,by rw [←HK.o];exact HO.o.rds.rdI,fun b hb=>by have:=HO.o.lt b hb;omega,hbl⟩}
def plI (l:Iz)(v:Int):Int:=match l.findIdx? (· == v) with|some i=>(i:Int)|none=>-1
theorem Qsl {l:Iz}{v:Int}{k:Nat} (h:l[k]?=some v) (hj:∀ j x,j<k→l[j]?=some x→x≠v):plI l v=k:=by unfold plI;have hk:=(Zs h).1;have:l.findIdx? (· == v)=some k:=by{rw [List.findIdx?_eq_some_iff_getElem];refine ⟨hk,by simpa using (Zs h).2,fun j hjk=>?_⟩;simpa using hj j _ hjk (Zg Oo)};rw [this]
theorem Qdn {l:Iz}{v:Int}(h:v ∉ l):plI l v = -1:=by
 unfold plI
 have:l.findIdx? (· == v)=none:=by
  rw [List.findIdx?_eq_none_iff];intro x hx;have:x≠v:=fun e=>h (e▸hx)
  simpa using this
 rw [this]
theorem Qsm {l:Iz}{v:Int}(h:v∈l):∃ k:Nat,plI l v=k∧l[k]?=some v:=by
 obtain ⟨k,hk⟩:=Yr h;unfold plI
 cases e:l.findIdx? (· == v) with
 | none =>rw [List.findIdx?_eq_none_iff] at e;have:=e v h;simp at this
 | some i =>rw [List.findIdx?_eq_some_iff_getElem] at e;obtain ⟨hi,h1,_⟩:=e;refine ⟨i,rfl,?_⟩;rw [Zg hi];simpa using h1
theorem plI_nn {l:Iz}{v:Int}:0≤plI l v↔v∈l:=by constructor;{intro h;by_cases hm:v∈l;{exact hm};{rw [Qdn hm] at h;omega}};{intro h;obtain ⟨k,e,_⟩:=Qsm h;omega}
theorem Rfn (A:Oz)(n c:Nat)(l:Iz)(v:Int)(w:World)(h:RdI w A n l)(hn:n≤1000000000) :
 Calls prog 235 #[.slice A n c,.int .i64 v] w fun e w'=>e=.returned (.int .i64 (plI l v))∧w=w':=by
 have HR:=Zh h;have HL:=Zh h.1;clear h;go_enter func235,ntmps235
 go_wp2_with fail
 go_loop [8] (fun q=>∃ k:Nat,k≤n∧q=.int .i64 k∧∀ j x,j<k→l[j]?=some x→x≠v) (fun q=>n-(intOf q).toNat)
 case atStart=>exact ⟨0,Nat.zero_le _,rfl,fun _ _ h=>absurd h (Nat.not_lt_zero _)⟩
 case round =>exact Kal
theorem Qty (A:Oz)(n c:Nat)(l:Iz)(v:Int)(w:World)(h:RdI w A n l)(hn:n≤1000000000) :
 Calls prog 213 #[.slice A n c,.int .i64 v] w fun e w'=>e=.returned (.bool (decide (v∈l)))∧w=w':=by
 have HI:=Zh (Rfn A n c l v w h hn);have HD:=Zh (show decide ((0:Int)≤plI l v)=decide (v∈l) by simp [plI_nn]);clear h;go_enter func213,ntmps213
 go_wp2_with fail
 with_reducible refine HI.o.mono ?_
 rintro e w' ⟨rfl,rfl⟩;generalize plI l v=p at *;go_wp2_with fail
 go_ret;exact ⟨Qao (by rw [←HD.o]),rfl⟩
theorem less_any (a b:Int)(w:World):Calls prog 236 #[.int .i64 a,.int .i64 b] w fun e w'=>e=.returned (.bool (decide (a<b)))∧w=w':=by
 go_enter func236,ntmps236
 go_wp2;go_ret;exact ⟨Qao Sm,rfl⟩
def Qlp (l:Iz):Bool:=decide (l.Pairwise (·≤·))
theorem Qqv {l:Iz} (h:∀ (j:Nat) (x y:Int),l[j]?=some x→l[j+1]?=some y→x≤y):Qlp l=true:=by
 unfold Qlp;rw [decide_eq_true_eq,List.pairwise_iff_getElem];intro i j hi hj hij;obtain ⟨d,rfl⟩:∃ d,j=i+1+d:=⟨j-i-1,Oo⟩;clear hij
 induction d with
 | zero=>exact h i _ _ (Zg hi) (Zg hj)
 | succ d ih =>have:=ih Oo;have:=h (i+1+d) _ _ (Zg Oo) (Zg hj);omega
theorem Qyo {l:Iz}{j:Nat}{x y:Int} (h1:l[j]?=some x) (h2:l[j+1]?=some y) (h:y<x):Qlp l=false:=by unfold Qlp;rw [decide_eq_false_iff_not,List.pairwise_iff_getElem];intro hp;have:=hp j (j+1) (Zs h1).1 (Zs h2).1 Oo;rw [(Zs h1).2,(Zs h2).2] at this;omega
theorem Qul (A:Oz)(n c:Nat)(l:Iz)(w:World)(h:RdI w A n l)(hn:n≤1000000000) :
 Calls prog 214 #[.slice A n c] w fun e w'=>e=.returned (.bool (Qlp l))∧∃ k,w'=w.drewN k:=by
 have HR:=Zh h;have HL:=Zh h.1;clear h;go_enter func214,ntmps214
 go_wp2_with fail
 go_loopw [3] (fun q W=>(∃ d,W=w.drewN d)∧∃ k:Int,-1≤k∧k<n∧q=.int .i64 k∧∀ (j:Nat) x y,k≤j→l[j]?=some x→l[j+1]?=some y→x≤y) (fun q _=>(intOf q).toNat)
 case atStart =>refine ⟨⟨0,rfl⟩,(n:Int)-1,Oo,Oo,rfl,fun j x y hj _ hy=>?_⟩;have:=(Zs hy).1;rw [HL.o] at this;omega
 case round =>
  obtain ⟨hd,k,hk,hkn,rfl,hj⟩:=hrel;have HW:=Zh hd;have HJ:=Zh hj;clear hj;by_cases hlt:0<k
  {obtain ⟨m,rfl⟩:∃ m:Nat,k=(m:Int)+1:=⟨(k-1).toNat,Oo⟩;obtain ⟨b,o,x,rfl,hx,hc⟩:=HR.o.at_ (show m<n by omega);obtain ⟨b',o',y,e,hy,hc'⟩:=HR.o.at_ (show m+1<n by omega);cases e;(have hc1:wr.cell? ⟨b,o+m,none⟩=some (.int .i64 x):=by obtain ⟨d,rfl⟩:=hd;exact hc);(have hc2:wr.cell? ⟨b,o+(m+1),none⟩=some (.int .i64 y):=by obtain ⟨d,rfl⟩:=hd;exact hc');(have HLS:=Zh (fun V=>less_any y x V);have i1:0≤(m:Int):=Oo);(have i2:(m:Int)<n:=Oo);(have i3:(m:Int)+1<n:=Oo);(have i4:0≤(m:Int)+1:=Oo);(have i5:(m:Int)+1-1=m:=Oo);(have i6:((m:Int)+1).toNat=m+1:=Oo);have HX:=Zh hx;have HY:=Zh hy;clear hx hy hc hc' hd;(by_cases hyx:y<x);{(have e1:decide (y<x)=true:=by simpa using hyx);have HS:=Zh (Qyo HX.o HY.o hyx);(go_wp2_with fail);(go_quiet ((go_at_call 236;exact Qig (HLS.o _))));(go_wp2_with fail);go_ret;refine ⟨Qao HS.o.symm,?_⟩;obtain ⟨d,e⟩:=HW.o;exact ⟨d+nq,by rw [e,World.drewN_drewN]⟩};{(have e1:decide (y<x)=false:=by simpa using hyx);have HS:=Zh hyx;(go_wp2_with fail);(go_quiet ((go_at_call 236;exact Qig (HLS.o _))));(go_wp2_with fail);go_roundw;(case rel =>obtain ⟨d,e⟩:=HW.o;refine ⟨⟨d+nq,by rw [e,World.drewN_drewN]⟩,(m:Int),Oo,Oo,by first|rfl|go_num,fun j x' y' hj h1 h2=>?_⟩;by_cases ej:j=m;{subst ej;rw [HX.o] at h1;rw [HY.o] at h2;cases h1;cases h2;have:=HS.o;omega};{exact HJ.o j x' y' Oo h1 h2});case measure=>simp [intOf]}};{have HS:=Zh (Qqv (l:=l) (fun j x y h1 h2=>HJ.o j x y Oo h1 h2));(go_wp2_with fail);go_ret;exact ⟨Qao HS.o.symm,HW.o⟩}
def Qwe (l:Iz)(n:Nat):Iz:=(List.range n).map (fun c:Nat=>((l.countP (fun x=>x == (c:Int)):Nat):Int))
theorem Qhs (l:Iz)(n:Nat):(Qwe l n).length=n:=by simp [Qwe]
theorem Qfb {l:Iz}{n v:Nat}(h:v<n):(Qwe l n)[v]?=some ((l.countP (fun x=>x == (v:Int)):Nat):Int):=by unfold Qwe;rw [Yt,List.getElem?_range h];rfl
theorem Qtx (n:Nat):Qbr (Qwe [] n)=Qbg (.int .i64 0) n:=by
 rw [Qbx];congr 1
 apply List.ext_getElem?;intro i;rcases Nat.lt_or_ge i n with h|h
 {rw [Qfb h];simp [h]};{rw [Yd (by rw [Qhs];exact h),Yd (by simpa using h)]}
theorem Qtw {l:Iz}{n v k:Nat} (ha:l[k]?=some (v:Int)) (h:v<n) :
 (Qwe (l.take k) n).set v ((((l.take k).countP (fun x=>x == (v:Int)):Nat):Int)+1)=Qwe (l.take (k+1)) n:=by
 apply List.ext_getElem?;intro i;rw [Yf (Zs ha).1,(Zs ha).2];rcases Nat.lt_or_ge i n with hi|hi
 {rw [Qfb hi,List.countP_append];by_cases e:v=i;{subst e;rw [Yg (by rw [Qhs];exact h)];simp};{rw [Yh e,Qfb hi];(have:((v:Int) == (i:Int))=false:=by simp;omega);simp [this]}};{rw [Yd (by rw [Yq,Qhs];exact hi),Yd (by rw [Qhs];exact hi)]}
theorem Rep (l:Iz)(k:Nat)(v:Int):(l.take k).countP (fun x=>x == v)≤k:=Yx List.countP_le_length (List.length_take_le _ _)
theorem Req (l:Iz){n m:Nat}(h:m≤n):(Qwe l n).take m=Qwe l m:=by apply List.ext_getElem?;intro i;rw [List.getElem?_take];split;{rename_i hi;rw [Qfb Oo,Qfb hi]};{rw [Yd (by rw [Qhs];omega)]}
theorem cntI_pos {n:Nat}{l:Iz}(h:Qgz n l):(0:Int) ∉ Qwe l (Qay l).toNat:=by intro hm;unfold Qwe at hm;rw [List.mem_map] at hm;obtain ⟨c,hc,e⟩:=hm;rw [List.mem_range] at hc;have hc2:=h.all c Oo;have:=List.countP_pos_iff (p:=fun x=>x == (c:Int)).2 ⟨(c:Int),hc2,Sm⟩;omega
theorem tally_ok (A:Oz)(n c:Nat)(l:Iz)(w:World)(h:RdI w A n l)(hl:Qgz n l)(hn:n≤1000000) :
 Calls prog 173 #[.slice A n c] w fun e w'=>∃ g,e=.returned (.tuple #[.slice (some ⟨g,0,none⟩) (Qay l).toNat n,.bool true])∧RdI w' (some ⟨g,0,none⟩) (Qay l).toNat (Qwe l (Qay l).toNat)∧Bw w w':=by
 have HR:=Zh h;have HL:=Zh h.1;have HO:=Zh hl;have hmk:=Qdp n Oo;clear h hl;go_enter func173,ntmps173
 go_wp2_with fail
 (refine Qai ?_;intro w1 hw1);have hb1:Bw w w1:=by rw [hw1];exact Qag
 have hB1:Blk w1 w.heap.size 3 (Qbr (Qwe (l.take 0) n)):=by rw [hw1,List.take_zero,Qtx];exact Blk.new _ _ _
 clear hw1 hmk;go_loopw [6,15] (fun m q W=>Bw w W∧∃ k:Nat,k≤n∧q=.int .i64 k∧m=.int .i64 (Qay (l.take k)-1)∧Blk W w.heap.size 3 (Qbr (Qwe (l.take k) n))) (fun _ q _=>n-(intOf q).toNat)
 case atStart=>exact ⟨hb1,0,Nat.zero_le _,rfl,rfl,hB1⟩
 case round =>
  clear hb1 hB1;obtain ⟨hbl,k,hk,rfl,rfl,hB⟩:=hrel;by_cases hlt:k<n
  {obtain ⟨b,o,x,rfl,hx,hc⟩:=HR.o.at_ hlt;(have x0:=HO.o.lo x (Zm hx);have x1:=HO.o.hi x (Zm hx);obtain ⟨v,rfl⟩:∃ v:Nat,x=v:=⟨x.toNat,Oo⟩;have hv:v<n:=Oo);(have hc2:=Zc hbl (Zn _) hc;have HNX:=Zh (Qie hx);have c1:=hB.cellI (Qfb (l:=l.take k) hv);have c1f:=hB.frozen v;have d1:=Rep l k (v:Int);have m0:=Qcu (l.take k);have m1:=Qcr (l:=l.take k) (n:=(n:Int)) (fun x hx=>HO.o.hi x (List.mem_of_mem_take hx)) Oo;have HBN:=Zh (hB.setI (Qtw hx hv));have i1:0≤(k:Int):=Oo);(have i2:(k:Int)<n:=Oo);(have i3:0≤(v:Int):=Oo);(have i4:(v:Int)<n:=Oo);clear hx hc hB;generalize (l.take k).countP (fun x=>x == (v:Int))=p at *;generalize Qay (l.take k)=m at *;have hbn:Bw w (wr.setCell ⟨w.heap.size,v,none⟩ (.int .i64 ((p:Int)+1))):=hbl.setCell (Zn _) _;have HM:=Zh (show (if m-1<(v:Int) then (v:Int) else m-1)=max m ((v:Int)+1)-1∧max (m-1) (v:Int)=max m ((v:Int)+1)-1 by constructor <;> (try split) <;> omega);(go_wp2_with fail);go_roundw;(case rel=>exact ⟨hbn,k+1,Oo,by go_num,by rw [HNX.o];first|rw [HM.o.1]|rw [HM.o.2],HBN.o⟩);case measure=>simp [intOf];omega};{(obtain rfl:n=k:=Oo);rw [Ye (by rw [HL.o];exact Zn _)] at hB;have HE:=Zh (show Qay (l.take n)=Qay l by rw [Ye (by rw [HL.o];exact Zn _)]);have m0:=Qcu l;have m1:=Qcr (l:=l) (n:=(n:Int)) (fun x hx=>HO.o.hi x hx) Oo;have HP:=Zh (cntI_pos HO.o);have hrd:=(hB.rdI (n:=n) (Qhs l n)).take (m:=(Qay l).toNat) Oo;rw [Req l Oo] at hrd;rw [HE.o];obtain ⟨M,hM⟩:∃ M:Nat,Qay l=M:=⟨(Qay l).toNat,Oo⟩;rw [hM] at m0 m1 ⊢;have HMM:=Zh hM;rw [hM,Yl] at hrd HP;have HCT:=Zh (show Calls prog 213 #[.slice (some ⟨w.heap.size,0,none⟩) M n,.int .i64 0] wr fun e w'=>e=.returned (.bool false)∧wr=w' from (Qty _ M n _ 0 wr hrd Oo).mono (fun e w' h=>⟨by rw [h.1,decide_eq_false HP.o],h.2⟩));(have HRD:=Zh hrd;clear hM hrd hB;have i1:(M:Int)-1+1=M:=Oo);(go_wp2_with fail);(with_reducible refine HCT.o.mono ?_);rintro e w' ⟨rfl,rfl⟩;(go_wp2_with fail);(go_ret2);exact ⟨w.heap.size,by rw [HMM.o,Yl];rfl,by rw [HMM.o,Yl];exact HRD.o,hbl⟩}
structure UpI (p l U:Iz) (k:Nat):Prop where
 len:U.length=p.length
 put:∀ (v c:Nat) (y:Int),v<k→p[v]?=some (c:Int)→l[v]?=some y→U[c]?=some y
 got:∀ (c:Nat) (y:Int),U[c]?=some y→y = -1∨∃ v,v<k∧p[v]?=some (c:Int)∧l[v]?=some y
theorem UpI.start (p l:Iz):UpI p l (List.replicate p.length (-1)) 0 :=
 ⟨Sm,fun v _ _ h=>absurd h (Nat.not_lt_zero _),fun c y h=>.inl (by
  have:=Zm h;exact (List.mem_replicate.1 this).2)⟩
theorem UpI.next {p l U:Iz}{k c:Nat}{y:Int}(h:UpI p l U k)(hn:Qeh p l) (hp:p[k]?=some (c:Int)) (hl:l[k]?=some y) (hc:c<p.length):UpI p l (U.set c y) (k+1):=by refine ⟨by rw [Yq];exact h.len,fun v d z hv h1 h2=>?_,fun d z hz=>?_⟩;{by_cases e:c=d;{subst e;rw [Yg (by rw [h.len];exact hc)];have q1:=hn v k _ _ _ _ h1 hp h2 hl (Int.le_refl _);have q2:=hn k v _ _ _ _ hp h1 hl h2 (Int.le_refl _);(congr 1);omega};{rw [Yh e];by_cases ev:v=k;{subst ev;rw [hp] at h1;(injection h1 with h1);omega};{exact h.put v d z Oo h1 h2}}};{by_cases e:c=d;{subst e;rw [Yg (by rw [h.len];exact hc)] at hz;cases hz;exact .inr ⟨k,Oo,hp,hl⟩};{rw [Yh e] at hz;(rcases h.got d z hz with h1|⟨v,h1,h2⟩);{exact .inl h1};{exact .inr ⟨v,Oo,h2⟩}}}
theorem UpI.eq {p l U:Iz}{k c:Nat}{y z:Int}(h:UpI p l U k)(hn:Qeh p l) (hp:p[k]?=some (c:Int)) (hl:l[k]?=some y) (hz:U[c]?=some z):z = -1∨z=y:=by
 rcases h.got c z hz with h1|⟨v,h1,h2,h3⟩
 {exact .inl h1};{have q1:=hn v k _ _ _ _ h2 hp h3 hl (Int.le_refl _);have q2:=hn k v _ _ _ _ hp h2 hl h3 (Int.le_refl _);exact .inr Oo}
theorem UpI.sorted {p l U:Iz}{n:Nat}(h:UpI p l U n)(hn:Qeh p l)(hp:Qgz n p)(hl:l.length=n):Qlp (U.take (Qay p).toNat)=true:=by
 refine Qqv (fun j x y h1 h2=>?_);rw [List.getElem?_take] at h1 h2;split at h1
 {rename_i q1;(split at h2);{rename_i q2;obtain ⟨a,ha⟩:=Yr (hp.all j Oo);obtain ⟨b,hb⟩:=Yr (hp.all (j+1) Oo);have la:=(Zs ha).1;have lb:=(Zs hb).1;rw [hp.len] at la lb;have ea:l[a]?=some l[a]:=Zg Oo;have eb:l[b]?=some l[b]:=Zg Oo;have p1:=h.put a j _ la ha ea;have p2:=h.put b (j+1) _ lb hb eb;rw [p1] at h1;rw [p2] at h2;cases h1;cases h2;exact hn a b _ _ _ _ ha hb ea eb Oo};{cases h2}};{cases h1}
theorem Rgt {n k:Nat}(h:k<n):(List.replicate k (-1:Int) ++List.replicate (n-k) 0).set k (-1)=List.replicate (k+1) (-1) ++List.replicate (n-(k+1)) 0:=by rw [List.set_append_right _ _ Sm];obtain ⟨m,hm⟩:∃ m,n-k=m+1:=⟨n-k-1,Oo⟩;rw [hm,show n-(k+1)=m by omega,List.replicate_succ' (n:=k)];simp [List.replicate_succ]
theorem Rgw (A B:Oz)(n c d:Nat)(p l:Iz)(w:World)(h:RdI w A n p)(h2:RdI w B n l)(hp:Qgz n p)(hl:Qgz n l)(hN:Qeh p l)(hn:n≤1000000) :
 Calls prog 174 #[.slice A n c,.slice B n d] w fun e w'=>e=.returned (.bool true)∧Bw w w':=by
 have HR:=Zh h;have HR2:=Zh h2;have HL:=Zh h.1;have HO:=Zh hp;have HO2:=Zh hl;have HN:=Zh hN;have hmk:=Qdp n Oo;clear h h2 hl hp hN;go_enter func174,ntmps174
 go_wp2_with fail
 (refine Qai ?_;intro w1 hw1);have hb1:Bw w w1:=by rw [hw1];exact Qag
 have hB1:Blk w1 w.heap.size 3 (Qbr (List.replicate 0 (-1) ++List.replicate (n-0) 0)):=by rw [hw1];simp only [List.replicate_zero,List.nil_append,Nat.sub_zero];rw [←Qbx];exact Blk.new _ _ _
 clear hw1 hmk;go_loopw [15] (fun q W=>Bw w W∧∃ k:Nat,k≤n∧q=.int .i64 k∧Blk W w.heap.size 3 (Qbr (List.replicate k (-1) ++List.replicate (n-k) 0))) (fun q _=>n-(intOf q).toNat)
 case atStart=>exact ⟨hb1,0,Nat.zero_le _,rfl,hB1⟩
 case round =>
  clear hb1 hB1;obtain ⟨hbl,k,hk,rfl,hB⟩:=hrel;by_cases hlt:k<n
  {obtain ⟨z,hz⟩:∃ z,(List.replicate k (-1:Int) ++List.replicate (n-k) 0)[k]?=some z:=⟨_,Zg (by simp;omega)⟩;(have c1:=hB.cellI hz;have c1f:=hB.frozen k;have HB:=Zh (hB.setI (Rgt hlt));have hbn:Bw w (wr.setCell ⟨w.heap.size,k,none⟩ (.int .i64 (-1))):=hbl.setCell (Zn _) _;have i1:0≤(k:Int):=Oo);(have i2:(k:Int)<n:=Oo);clear hB hz hbl;(go_wp2_with fail);go_roundw;(case rel=>exact ⟨hbn,k+1,Oo,by go_num,HB.o⟩);case measure=>simp [intOf];omega};{(obtain rfl:n=k:=Oo);rw [Yy,List.replicate_zero,List.append_nil] at hB;have HU:=Zh (show UpI p l (List.replicate n (-1)) 0 from by have:=UpI.start p l;rw [HL.o] at this;exact this);(go_wp2_with fail);(go_loopw [7,24] (fun m q W=>Bw w W∧∃ (k:Nat) (U:Iz),k≤n∧q=.int .i64 k∧m=.int .i64 (Qay (p.take k)-1)∧Blk W w.heap.size 3 (Qbr U)∧UpI p l U k) (fun _ q _=>n-(intOf q).toNat));(case atStart=>exact ⟨hbl,0,_,Nat.zero_le _,rfl,rfl,hB,HU.o⟩);case round =>clear hbl hB HU;obtain ⟨hbl,k,U,hk,rfl,rfl,hB,hU⟩:=hrel;have HU:=Zh hU;(by_cases hlt2:k<n);{obtain ⟨b,o,x,rfl,hx,hc⟩:=HR.o.at_ hlt2;(obtain ⟨b2,o2,y,rfl,hy,hcy⟩:=HR2.o.at_ hlt2;have x0:=HO.o.lo x (Zm hx);have x1:=HO.o.hi x (Zm hx);have y0:=HO2.o.lo y (Zm hy);obtain ⟨v,rfl⟩:∃ v:Nat,x=v:=⟨x.toNat,Oo⟩;have hv:v<n:=Oo);(have hc2:=Zc hbl (Zn _) hc;have hcy2:=Zc hbl (Zn _) hcy;have HNX:=Zh (Qie hx);obtain ⟨z,hz⟩:∃ z,U[v]?=some z:=⟨_,Zg (by rw [hU.len,HL.o];exact hv)⟩;have hzz:=hU.eq HN.o hx hy hz;have c1:=hB.cellI hz;have c1f:=hB.frozen v;have m0:=Qcu (p.take k);have m1:=Qcr (l:=p.take k) (n:=(n:Int)) (fun x hx=>HO.o.hi x (List.mem_of_mem_take hx)) Oo;have HBN:=Zh (hB.setI (l':=U.set v y) rfl);have HUN:=Zh (hU.next HN.o hx hy (by rw [HL.o];exact hv));have i1:0≤(k:Int):=Oo);(have i2:(k:Int)<n:=Oo);(have i3:0≤(v:Int):=Oo);(have i4:(v:Int)<n:=Oo);have hbn:Bw w (wr.setCell ⟨w.heap.size,v,none⟩ (.int .i64 y)):=hbl.setCell (Zn _) _;clear hx hy hc hcy hB hU hz HU hbl;generalize Qay (p.take k)=m at *;have HM:=Zh (show (if m-1<(v:Int) then (v:Int) else m-1)=max m ((v:Int)+1)-1∧max (m-1) (v:Int)=max m ((v:Int)+1)-1 by constructor <;> (try split) <;> omega);by_cases hz0:z ≥ 0;{(obtain rfl:z=y:=Oo);clear hzz;exact Kbs};{(obtain rfl:z = -1:=Oo);clear hzz hz0;exact Kbs}};{(obtain rfl:n=k:=Oo);have HE:=Zh (show Qay (p.take n)=Qay p by rw [Ye (by rw [HL.o];exact Zn _)]);have m0:=Qcu p;have m1:=Qcr (l:=p) (n:=(n:Int)) (fun x hx=>HO.o.hi x hx) Oo;have HS:=Zh (hU.sorted HN.o HO.o HO2.o.len);have hrd:=(hB.rdI (n:=n) (by rw [hU.len];exact HL.o)).take (m:=(Qay p).toNat) Oo;rw [HE.o];obtain ⟨M,hM⟩:∃ M:Nat,Qay p=M:=⟨(Qay p).toNat,Oo⟩;rw [hM] at m0 m1 ⊢;rw [hM,Yl] at hrd HS;have HCT:=Zh (show Calls prog 214 #[.slice (some ⟨w.heap.size,0,none⟩) M n] wr fun e w'=>e=.returned (.bool true)∧∃ k,w'=wr.drewN k from (Qul _ M n _ wr hrd Oo).mono (fun e w' h=>⟨by rw [h.1,HS.o],h.2⟩));(have i1:(M:Int)-1+1=M:=Oo);clear hM hrd hB hU HE HU;(go_wp2_with fail);(with_reducible refine HCT.o.mono ?_);(rintro e w' ⟨rfl,nq,hw'⟩;have hbe:Bw w w':=by rw [hw'];exact Qbd hbl _);clear hw';(go_wp2_with fail);go_ret;exact ⟨rfl,hbe⟩}}
theorem Qlz (Q:Oz)(n L cq:Nat) (ls:Lz) (w:World) (h:RdT w Q L ls) (hP:Qbt n ls) (hn:n≤4096) :
 Calls prog 117 #[.int .i64 n,.agg #[.slice Q L cq],.slice none 0 0] w fun e w'=>e=.returned .nilIface∧Bw w w':=by
 have HT:=Zh h;have HP:=Zh hP;have l1:1≤L:=by rw [←h.1];exact hP.l1
 have l6:L≤6:=by rw [←h.1];exact hP.l6
 have HLEN:=Zh h.1;clear h hP;have j1:((L:Int) == 0)=false:=by simp;omega
 have j2:¬(n:Int)<0:=Oo
 have j3:¬(n:Int) > 4096:=Oo
 have j4:¬(L:Int) > 6:=Oo
 have j5:¬L=0:=Oo
 go_enter func117,ntmps117
 go_wp2_with fail
 (refine Qai ?_;intro w1 hw1);have hb1:Bw w w1:=by rw [hw1];exact Qag
 have hQ:Blk w1 w.heap.size 146 #[.slice Q L cq]:=by rw [hw1];exact Qbi
 have hBd:Blk w1 (w.heap.size+1) 64 #[.slice none 0 0]:=by rw [hw1];exact Qbi
 clear hw1;go_loopw [45] (fun q W=>Bw w W∧Blk W w.heap.size 146 #[.slice Q L cq]∧Blk W (w.heap.size+1) 64 #[.slice none 0 0]∧∃ i:Nat,i≤L∧q=.int .i64 i) (fun q _=>L-(intOf q).toNat)
 case atStart=>exact ⟨hb1,hQ,hBd,0,Nat.zero_le _,rfl⟩
 case round =>
  clear hb1 hQ hBd;obtain ⟨hbl,hQ,hBd,i,hi,rfl⟩:=hrel;by_cases hlt:i<L
  {obtain ⟨b,o,A,m,c,l,rfl,hl,hc,hr,q1,q2⟩:=HT.o.at_ hlt;(have hlo:=HP.o.lvl l (Zm hl);obtain rfl:m=n:=by rw [←hr.1];exact hlo.len);have hcc:=Zc hbl (Zn _) hc;have HTL:=Zh (show ∀ V,Bw w V→Calls prog 173 #[.slice A m c] V fun e w'=>∃ g,e=.returned (.tuple #[.slice (some ⟨g,0,none⟩) (Qay l).toNat m,.bool true])∧Bw V w' from fun V hV=>(tally_ok A m c l V (hr.below hV) hlo Oo).mono (fun e w' ⟨g,h1,_,h3⟩=>⟨g,h1,h3⟩));(have HR:=Zh hr;have HLO:=Zh hlo;have HLL:=Zh hl;have i1:0≤(i:Int):=Oo);(have i2:(i:Int)<L:=Oo);clear hr hlo hl hc q1;by_cases hi0:i=0;{(have e0:¬((i:Int) > 0):=Oo);(have e00:¬(0<i):=Oo);clear hi0;(go_wp2_with fail);(refine Qab ?_;intro w2 hw2);(have hb2:Bw wr w2:=by rw [hw2];exact Qag);(have hX:Blk w2 wr.heap.size 3 #[.int .i64 (i:Int)]:=by rw [hw2];exact Qbi);(clear hw2;have hbl2:=Zb hbl hb2;with_reducible refine (HTL.o w2 hbl2).mono ?_);rintro e w3 ⟨g,rfl,hb3⟩;have hX3:=(hX.below hb3 hX.lt).cell 0;have hQ3:=(hQ.below hb2 hQ.lt).below hb3 (hQ.below hb2 hQ.lt).lt;have hB3:=(hBd.below hb2 hBd.lt).below hb3 (hBd.below hb2 hBd.lt).lt;have z1:=hQ3.lt;have z2:=hB3.lt;have y1:=hQ3.cell 0;have y2:=hB3.cell 0;simp only [Yo,Yn] at hX3 y1 y2;have hbl3:=Zb hbl2 hb3;clear hX hQ hBd hcc hb2 hb3;(go_wp2_with fail);go_roundw;(case rel=>exact ⟨hbl3,hQ3,hB3,i+1,Oo,by go_num⟩);case measure=>simp [intOf];omega};{obtain ⟨j,rfl⟩:∃ j,i=j+1:=⟨i-1,Oo⟩;obtain ⟨b',o',A',m',c',l',e,hl',hc',hr',q1',q2'⟩:=HT.o.at_ (show j<L by omega);cases e;(have hlo':=HP.o.lvl l' (Zm hl');obtain rfl:m'=m:=by rw [←hr'.1];exact hlo'.len);have hne:=HP.o.nest j l' l hl' HLL.o;have HNS:=Zh (show ∀ V,Bw w V→Calls prog 174 #[.slice A' m' c',.slice A m' c] V fun e w'=>e=.returned (.bool true)∧Bw V w' from fun V hV=>Rgw A' A m' c' c l' l V (hr'.below hV) (HR.o.below hV) hlo' HLO.o hne Oo);(have hcc':=Zc hbl (Zn _) hc';have i3:((j:Int)+1)-1=(j:Int):=Oo);(have i4:0≤(j:Int):=Oo);(have i5:(j:Int)<L:=Oo);clear hr' hlo' hl' hc' q1' hne hi0;(go_wp2_with fail);(refine Qab ?_;intro w2 hw2);(have hb2:Bw wr w2:=by rw [hw2];exact Qag);(have hX:Blk w2 wr.heap.size 3 #[.int .i64 ((j:Int)+1)]:=by rw [hw2];exact Qbi);(clear hw2;have hbl2:=Zb hbl hb2;with_reducible refine (HTL.o w2 hbl2).mono ?_);rintro e w3 ⟨g,rfl,hb3⟩;have hbX3:=hX.below hb3 hX.lt;have hX3:=hbX3.cell 0;have hQ3:=(hQ.below hb2 hQ.lt).below hb3 (hQ.below hb2 hQ.lt).lt;have hB3:=(hBd.below hb2 hBd.lt).below hb3 (hBd.below hb2 hBd.lt).lt;have y1:=hQ3.cell 0;simp only [Yo,Yn] at hX3 y1;have hbl3:=Zb hbl2 hb3;have d1:=Zc hb3 (Zn _) (Zc hb2 (Zn _) hcc);have d2:=Zc hb3 (Zn _) (Zc hb2 (Zn _) hcc');clear hX hQ hBd hcc hb2 hb3 hcc';(go_wp2_with fail);(with_reducible refine (HNS.o w3 hbl3).mono ?_);rintro e w4 ⟨rfl,hb4⟩;have hX4:=(hbX3.below hb4 hbX3.lt).cell 0;have hQ4:=hQ3.below hb4 hQ3.lt;have hB4:=hB3.below hb4 hB3.lt;have y2:=hB4.cell 0;simp only [Yo,Yn] at hX4 y2;have hbl4:=Zb hbl3 hb4;clear d1 d2 hX3 y1 hbX3 hQ3 hB3 hb4;(go_wp2_with fail);go_roundw;(case rel=>exact ⟨hbl4,hQ4,hB4,j+1+1,Oo,by go_num⟩);case measure=>simp [intOf];omega}};{(obtain rfl:L=i:=Oo);(go_wp2_with fail);go_ret;exact ⟨rfl,hbl⟩}
