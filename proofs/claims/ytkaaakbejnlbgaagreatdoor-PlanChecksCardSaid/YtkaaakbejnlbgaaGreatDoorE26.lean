/- Qbl of the proof: QPlA, TaK, TbM, MnQ, Arc, TaT, PlK, PlG, GbC. -/
import Derived.Test.YtkaaakbejnlbgaaGreatDoorE25
set_option maxHeartbeats 4000000
set_option maxRecDepth 100000
namespace Go.Proofs.YtkaaakbejnlbgaaGreatDoor
open Go.RowKit Go.Proofs.Tryz
def Qup (ls:Lz):Nat→Iz→Int
 | i,[]=>Qas ls i 0
 | i,k::t=>Qas ls i k.toNat+Qup ls k.toNat t
def Qwi (N:Nat) (ls:Lz):Prop:=ls.length=N+1∧∀ i j:Nat,i<N+1→j<N+1→0≤Qas ls i j∧Qas ls i j≤INF
theorem costs_of {N:Nat} {ls:Lz} (hs:sqB (N+1) ls=true):Qwi N ls:=by refine ⟨Qsz hs,fun i j hi hj=>?_⟩;obtain ⟨hlen,hrow⟩:=Qlq hs;have h1:ls[i]?=some ls[i]:=Zg Oo;have h2:=hrow i _ h1;have h3:ls[i][j]?=some ls[i][j]:=Zg Oo;rw [Qna h1 h3];exact (Qoy hs h1).2 _ (List.getElem_mem _)
theorem Qxm {N:Nat} {ls:Lz} (hc:Qwi N ls):∀ (r:Iz) (i:Nat),i<N+1→(∀ s∈r,1≤s∧s≤N)→0≤Qup ls i r
 | [],i,hi,_=>(hc.2 i 0 hi Oo).1
 | k::t,i,hi,h=>by have hk:=h k List.mem_cons_self;have h1:=(hc.2 i k.toNat hi Oo).1;have h2:=Qxm hc t k.toNat Oo (fun s hs=>h s (List.mem_cons_of_mem _ hs));unfold Qup;omega
theorem Qzz {N:Nat} {ls:Lz} (hc:Qwi N ls):∀ (r:Iz) (i:Nat) (x:Int),i<N+1→(∀ s∈r,1≤s∧s≤N)→0≤x→Qfv ls i (min x INF) r=min (x+Qup ls i r) INF
 | [],i,x,hi,_,hx=>by
  have h1:=hc.2 i 0 hi Oo;unfold Qfv Qup;unfold INF at *;rw [Qre Oo (by unfold INF;omega) h1.1 (by unfold INF;omega)];unfold INF;omega
 | k::t,i,x,hi,h,hx=>by
  have hk:=h k List.mem_cons_self;have h1:=hc.2 i k.toNat hi Oo;have h2:=Qxm hc t k.toNat Oo (fun s hs=>h s (List.mem_cons_of_mem _ hs));have h0:=hc.1;unfold Qfv Qup;rw [if_neg Oo,Qre (by unfold INF;omega) Oo h1.1 h1.2];have e:min (min x INF+Qas ls i k.toNat) INF=min (x+Qas ls i k.toNat) INF:=Oo
  rw [e,Qzz hc t k.toNat _ Oo (fun s hs=>h s (List.mem_cons_of_mem _ hs)) Oo];congr 1
  omega
theorem Rgb {N:Nat} {ls:Lz} (hc:Qwi N ls) {r:Iz} (hr:r≠[]) (h:∀ s∈r,1≤s∧s≤N):Qer ls r=min (Qup ls 0 r) INF:=by unfold Qer;rw [if_neg hr];have:=Qzz hc r 0 0 Oo h Oo;rw [show min (0:Int) INF=0 by decide,Int.zero_add] at this;exact this
def Rhz (ls:Lz) (rs:Lz):Int:=(rs.map (Qup ls 0)).sum
def Rdp (N:Nat) (rs:Lz):Prop:=∀ r∈rs,r≠[]∧∀ s∈r,1≤s∧s≤(N:Int)
theorem Qvz {N:Nat} {ls:Lz} (hc:Qwi N ls):∀ (rs:Lz) (x:Int),Rdp N rs→0≤x→rs.foldl (fun a r=>Qio a (Qer ls r)) (min x INF)=min (x+Rhz ls rs) INF
 | [],x,_,hx=>by simp [Rhz]
 | r::t,x,h,hx=>by
  obtain ⟨h1,h2⟩:=h r List.mem_cons_self;have h3:=Qxm hc r 0 Oo h2;rw [List.foldl_cons,Rgb hc h1 h2,Qre (by unfold INF;omega) Oo (by unfold INF;omega) Oo];have e:min (min x INF+min (Qup ls 0 r) INF) INF=min (x+Qup ls 0 r) INF:=by unfold INF;omega
  rw [e,Qvz hc t _ (fun r' hr'=>h r' (List.mem_cons_of_mem _ hr')) Oo];unfold Rhz;rw [List.map_cons,List.sum_cons];congr 1
  omega
theorem Qvy {N:Nat} {ls rs:Lz} (hc:Qwi N ls) (h:Rdp N rs):Qba ls rs=min (Rhz ls rs) INF:=by have:=Qvz hc rs 0 h Oo;rw [show min (0:Int) INF=0 by decide,Int.zero_add] at this;exact this
theorem Qpi {N:Nat} {rs:Lz} (h:Qbl N rs):Rdp N rs:=fun r hr=>⟨h.1 r hr,fun s hs=>by
 have:s∈Qfp N:=h.2.subset (List.mem_flatten.2 ⟨r,hr,hs⟩);unfold Qfp at this;obtain ⟨i,hi,e⟩:=List.mem_map.1 this;have:=List.mem_range.1 hi;omega⟩
theorem Quq (ls:Lz) (i:Nat) (k:Int) (t:Iz):Qup ls i (k::t)=Qas ls i k.toNat+Qup ls k.toNat t:=rfl
theorem Qur (ls:Lz) (b:Iz) (hb:b≠[]):∀ (a:Iz) (i:Nat),a≠[]→Qup ls i (a ++b)=Qup ls i a-Qas ls (Qkb a).toNat 0+Qas ls (Qkb a).toNat (Qco b).toNat+(Qup ls 0 b-Qas ls 0 (Qco b).toNat)
 | [x],i,_=>by
  cases b with
  | nil=>exact absurd rfl hb
  | cons y t=>simp [Qup,Qkb,Qco];omega
 | x::y::t,i,_=>by
  have:=Qur ls b hb (y::t) x.toNat Sm;have e:Qkb (x::y::t)=Qkb (y::t):=by simp [Qkb]
  rw [e,List.cons_append,Quq,this,Quq ls i x (y::t)];omega
theorem sum_perm:∀ {a b:Iz},a.Perm b→a.sum=b.sum:=by
 intro a b h
 induction h with
 | nil=>rfl
 | cons x _ ih=>simp [ih]
 | swap x y l=>simp;omega
 | trans _ _ h1 h2=>rw [h1,h2]
theorem Qkn {ls a b:Lz} (h:a.Perm b):Rhz ls a=Rhz ls b:=sum_perm (h.map _)
theorem svOf_val {ls:Lz} {a b:Nat} {x:Sv} (h:x∈Qtg ls a b):a≠b∧x.1=(a:Int)+1∧x.2.1=(b:Int)+1∧x.2.2=Qas ls (a+1) 0+Qas ls 0 (b+1)-Qas ls (a+1) (b+1)∧0<x.2.2:=by
 unfold Qtg at h;split at h
 {cases h};{rename_i g;simp only [List.mem_singleton] at h;subst h;exact ⟨fun e=>g (Or.inl e),rfl,rfl,rfl,Sn⟩}
theorem Rdt {N:Nat} {ls:Lz} (hl:ls.length=N+1) {x:Sv} (h:x∈Qjo ls):∃ a b:Nat,a<N∧b<N∧a≠b∧x.1=(a:Int)+1∧x.2.1=(b:Int)+1∧x.2.2=Qas ls (a+1) 0+Qas ls 0 (b+1)-Qas ls (a+1) (b+1)∧0<x.2.2:=by unfold Qjo at h;obtain ⟨a,b,ha,hb,hx⟩:=Qve h;obtain ⟨h1,h2,h3,h4,h5⟩:=svOf_val hx;exact ⟨a,b,Oo,Oo,h1,h2,h3,h4,h5⟩
theorem Qum {N:Nat}{cap lim:Int} {ls:Lz} {st:Pz} {rs:Lz} {s:Sv} (hl:ls.length=N+1) (hs:s∈Qjo ls) (h:Qbl N rs):Rhz ls (Qbp cap lim ls st rs s)≤Rhz ls rs:=by
 obtain ⟨a,b,ha,hb,hab,e1,e2,e3,e4⟩:=Rdt hl hs;rcases Qfj cap lim ls st rs s with e|⟨f,t,hf,ht,hne,g1,g2,_,e⟩
 {rw [e];exact Int.le_refl _};{rw [e];(have hX:(rs.set f (rs[f] ++rs[t])).length=rs.length:=Sm);have p1:=Qdt (rs.set f (rs[f] ++rs[t])) t Oo;have p2:=Qdt (rs.set f (rs[f] ++rs[t])) f Oo;have p3:=Qdt rs f hf;rw [List.getElem_set_ne hne] at p1;rw [List.getElem_set_self,List.eraseIdx_set_eq] at p2;have q1:=Qkn (ls:=ls) p1;have q2:=Qkn (ls:=ls) p2;have q3:=Qkn (ls:=ls) p3;have hj:=Qur ls rs[t] (h.1 _ (List.getElem_mem ht)) rs[f] 0 (h.1 _ (List.getElem_mem hf));rw [g1,g2,e1,e2,show ((a:Int)+1).toNat=a+1 by omega,show ((b:Int)+1).toNat=b+1 by omega] at hj;unfold Rhz at *;simp only [List.map_cons,List.sum_cons] at q1 q2 q3;omega}
theorem Qnz {N:Nat}{cap lim:Int} {ls:Lz} {st:Pz} (hl:ls.length=N+1):∀ (L:List Sv) {rs:Lz},(∀ s∈L,s∈Qjo ls)→Qbl N rs→Rhz ls (L.foldl (Qbp cap lim ls st) rs)≤Rhz ls rs
 | [],rs,_,_=>Int.le_refl _
 | s::t,rs,hs,h=>by have h1:=Qum (cap:=cap) (lim:=lim) (st:=st) hl (hs s List.mem_cons_self) h;have h2:=Qnz (cap:=cap) (lim:=lim) (st:=st) hl t (fun x hx=>hs x (List.mem_cons_of_mem _ hx)) (Qfk (cap:=cap) (lim:=lim) (ls:=ls) (st:=st) s h);rw [List.foldl_cons];omega
theorem Qlv {cap lim:Int} {ls:Lz} {st:Pz}:∀ (L:List Sv) {rs:Lz},(∀ r∈rs,Qej cap lim ls st r=true)→∀ r∈L.foldl (Qbp cap lim ls st) rs,Qej cap lim ls st r=true
 | [],rs,h=>h
 | s::t,rs,h=>by
  rw [List.foldl_cons];refine Qlv t (fun r hr=>?_);rcases Qfj cap lim ls st rs s with e|⟨f,u,hf,hu,hne,_,_,hg,e⟩
  {rw [e] at hr;exact h r hr};{rw [e] at hr;(rcases List.mem_or_eq_of_mem_set (List.mem_of_mem_eraseIdx hr) with h3|h3);{exact h r h3};{rw [h3];exact hg}}
theorem Rgi {st:Pz} {i:Nat} {p:Int×Int} (h:st[i]?=some p):Qey st ((i:Int)+1)=p.2:=by have hlt:=(Zs h).1;unfold Qey;rw [if_pos Oo,show ((i:Int)+1-1).toNat=i by omega,h];rfl
theorem Qxf {N:Nat}{cap lim:Int} {ls:Lz} {st:Pz} (hc:Qwi N ls) (hn:st.length=N) (hf:Qra cap lim ls st) {i:Nat} (hi:i<N):Qej cap lim ls st [(i:Int)+1]=true:=by
 obtain ⟨p,hp⟩:∃ p,st[i]?=some p:=⟨_,Zg Oo⟩;obtain ⟨h1,h2,h3,h4,h5⟩:=hf i p hp;have k1:=hc.2 0 (i+1) Oo Oo;have k2:=hc.2 (i+1) 0 Oo Oo;have hl:Qer ls [(i:Int)+1]=Qio (Qas ls 0 (i+1)) (Qas ls (i+1) 0):=by{rw [Rgb hc Sm (by simp;omega),Qre k1.1 k1.2 k2.1 k2.2];simp only [Qup];rw [show ((i:Int)+1).toNat=i+1 by omega]};unfold Qej;rw [hl];have:Qdm st [(i:Int)+1]=p.2:=by unfold Qdm;simp [Rgi hp]
 rw [this];unfold INF;simp [h1,h4,h5]
theorem Qyn {N:Nat}{r:Iz}(h:r∈Qbs N):∃ i:Nat,i<N∧r=[(i:Int)+1]:=by unfold Qbs at h;obtain ⟨i,hi,e⟩:=List.mem_map.1 h;exact ⟨i,List.mem_range.1 hi,e.symm⟩
theorem Qta (N:Nat):(Qfp N).Nodup:=by unfold Qfp;rw [List.nodup_iff_pairwise_ne,List.pairwise_map];exact (List.nodup_iff_pairwise_ne.1 List.nodup_range).imp (fun h e=>h Oo)
theorem Qbl.perm {N:Nat} {a b:Lz} (h:Qbl N a) (p:b.Perm a):Qbl N b:=⟨fun r hr=>h.1 r (p.subset hr),p.flatten.trans h.2⟩
theorem right_of {N:Nat}{cap lim:Int} {ls rs:Lz} {st:Pz} (h:Qbl N rs) (hg:∀ r∈rs,Qej cap lim ls st r=true):Qjn N cap lim ls st rs :=
 ⟨fun r hr=>⟨h.1 r hr,hg r hr⟩,(h.2.nodup_iff).2 (Qta N),fun s hs=>by
  obtain ⟨r,hr,hsr⟩:=List.mem_flatten.1 hs;exact (Qpi h r hr).2 s hsr,by rw [h.2.length_eq];simp [Qfp]⟩
theorem Qsw {N:Nat}{cap lim:Int} {ls R:Lz} {st:Pz} {L:List Sv} (hs:sqB (N+1) ls=true) (hn:st.length=N) (hf:Qra cap lim ls st) (hL:L.Perm (Qjo ls)) (hR:R.Perm (L.foldl (Qbp cap lim ls st) (Qbs N))) :
 Qjn N cap lim ls st R∧Qba ls R≤Qba ls (Qbs N):=by have hc:=costs_of hs;have hp:=Qsb (cap:=cap) (lim:=lim) (ls:=ls) (st:=st) L (Qen N);have hg:=Qlv (cap:=cap) (lim:=lim) (ls:=ls) (st:=st) L (rs:=Qbs N) (fun r hr=>by obtain ⟨i,hi,rfl⟩:=Qyn hr;exact Qxf hc hn hf hi);refine ⟨right_of (hp.perm hR) (fun r hr=>hg r (hR.subset hr)),?_⟩;rw [Qvy hc (Qpi (hp.perm hR)),Qvy hc (Qpi (Qen N)),Qkn hR];have:=Qnz (cap:=cap) (lim:=lim) (st:=st) hc.1 L (fun s hx=>hL.subset hx) (Qen N);omega
theorem Qsy:∀ {a b:Lz},a.Perm b→a.Pairwise (fun x y=>Qco x<Qco y)→b.Pairwise (fun x y=>Qco x<Qco y)→a=b:=by intro a b h ha hb;exact h.eq_of_pairwise (fun x y _ _ h1 h2=>by omega) ha hb
attribute [local go_sem ↓] Go.wp_at_zero Go.wp_at_succ
theorem Qfw (s:ByteArray)(k c:Int)(w:World):Calls prog 75 #[.string s,.int .i64 k,.int .i64 c] w fun e w'=>∃ v,e=.returned v∧Qci w' v [(s,k)] c∧Bw w w':=by
 go_enter func75,ntmps75
 exact Kdx
def KnwP (w:World)(s:ByteArray)(b:Option Nat)(e:Ending)(w':World):Prop:=(match b with|none=>e=.returned .nilIface|some i=>∃ v,e=.returned v∧Qci w' v [(s,(i:Int))] 5)∧Bw w w'
theorem Qut (w:World)(g:Nat)(N:Qak)(s:ByteArray)(A:Oz)(n c:Nat)(l:Iz)(hg:Qfg w g N)(hl:RdI w A n l)(hn:n≤1000000) :
 Calls prog 76 #[.pointer (some ⟨g,0,none⟩),.string s,.slice A n c] w (KnwP w s (Qfq N.ar.length l)):=by
 obtain ⟨m,hmm⟩:=Zx N.ar.length;have HGA:=Zh (show ∀ V,Bw w V→Calls prog 39 #[.pointer (some ⟨g,0,none⟩)] V fun e w'=>e=.returned (.int .i64 (m:Int))∧V=w' from fun V hV=>by rw [hmm];exact Qdj g N V (hg.below hV));have HL:=Zh hl;have HLN:=Zh hl.1;rw [←hmm];clear hg hl hmm;go_enter func76,ntmps76
 go_wp2_with fail
 go_loopw [11] (fun q W=>∃ i:Nat,i≤n∧q=.int .i64 i∧W=w∧∀ (k:Nat) (b:Int),k<i→l[k]?=some b→0≤b∧b<(m:Int)) (fun q _=>n-(intOf q).toNat)
 case atStart=>exact ⟨0,Nat.zero_le _,rfl,rfl,fun k b hk=>by omega⟩
 case round =>
  obtain ⟨i,hi,rfl,rfl,hk⟩:=hrel;have HK:=Zh hk;clear hk;by_cases hlt:i<n
  rotate_left;{(obtain rfl:n=i:=Oo);(have i1:¬(n:Int)<n:=Oo);have HN:=Zh (Qkt (m:=m) (fun k b hk=>HK.o k b (by have:=(Zs hk).1;have:=HLN.o;omega) hk));(go_wp2_with fail);go_ret;rw [HN.o];exact ⟨rfl,Zr _ _⟩};obtain ⟨b0,o0,a,rfl,ha,ca⟩:=HL.o.at_ hlt;have i1:(i:Int)<n:=Oo
  have i2:0≤(i:Int):=Oo
  have HA:=Zh ha;clear ha;by_cases h1:a<0
  {have HN:=Zh (Qtt HK.o HA.o (.inl h1));exact Kce};by_cases h2:(m:Int)≤a;{have HN:=Zh (Qtt HK.o HA.o (.inr h2));(go_wp2_with fail);(with_reducible refine (HGA.o _ (Zr _ _)).mono ?_);rintro r w' ⟨rfl,rfl⟩;exact Kce}
  have HN:=Zh (show ∀ (k:Nat) (b:Int),k<i+1→l[k]?=some b→0≤b∧b<(m:Int) from fun k b hk hb=>by
   by_cases e:k<i
   · exact HK.o k b e hb
   · obtain rfl:k=i:=by omega
     rw [HA.o] at hb
     cases hb
     omega)
  go_wp2_with fail
  with_reducible refine (HGA.o _ (Zr _ _)).mono ?_
  rintro r w' ⟨rfl,rfl⟩;go_wp2_with fail
  go_roundw;case rel=>exact ⟨i+1,Oo,by go_num,by first|rfl|trivial,HN.o⟩
  case measure=>simp [intOf];omega
theorem Rfp:(Tryz.prog.info? 37).map (fun i=>(i.zero,i.size,i.bytes))=some (some (.slice none 0 0),1,24):=Kf
theorem Qqt (n:Nat)(hn:n≤1000000)(W:World):(Instr.makeSlice 71 (.int .i64 (n:Int)) (.int .i64 (n:Int))).run prog W=.ok (.slice (some ⟨W.heap.size,0,none⟩) n n) (W.alloc (.cells (Qbg (.slice none 0 0) n) 37)) :=
 Qcv (P:=prog) 71 37 (.slice none 0 0) 24 Rfp underlying71 rfl n Oo Oo .i64 .i64 W
theorem Quu (w:World)(g o:Nat)(N:Qak) (ls:Lz) (TA:Oz) (nt ct:Nat) (tl:Iz) (CA:Oz) (NC cC:Nat) (cl:Iz) (hg:Qfg w g N) (ho:Qjm w o N.ar ls) (hc:RdI w CA NC cl) (ht:RdI w TA nt tl) (hok:Qar N) (hP:Qbt N.vs.length ls) :
 Calls prog 77 #[.pointer (some ⟨g,0,none⟩),.pointer (some ⟨o,0,none⟩),.slice CA NC cC,.slice TA nt ct] w fun e w'=>∃ qb Q cq mb,e=.returned (.pointer (some ⟨qb,0,none⟩)) ∧
  MR (msk w' (fun b=>b<w'.heap.size∧b≠mb)) qb g o N ls TA nt ct tl CA NC cC cl Q ls.length cq mb∧MpQ w' mb 0 (fun _ _=>none)∧w.heap.size≤mb∧Bw w w':=by
 have HG:=Zh hg;have HO:=Zh ho;have HC:=Zh hc;have HTT:=Zh ht;have HPT:=Zh (Rhd o N.ar ls w ho (by have:=hP.l6;omega) (fun l hl=>by have:=(hP.lvl l hl).len;have:=hok.lv;omega));obtain ⟨L,hL⟩:=Zx ls.length;rw [←hL] at HPT;rw [←hL];clear hg ho hc ht hok hP hL;go_enter func77,ntmps77
 go_wp2_with fail
 with_reducible refine HPT.o.mono ?_
 rintro r w1 ⟨Q,cq,rfl,hQ,hb1⟩;have HQ:=Zh hQ;have hfl:∀ V,(Instr.field 146 (.agg #[.slice Q L cq]) 0).run prog V=.ok (.slice Q L cq) V:=fun V=>by rfl
 have hmm:=@run_makeMap prog;clear hQ HPT;go_wp2_with fail
 obtain ⟨mb,hmb⟩:∃ b,b=w1.heap.size:=⟨_,rfl⟩;obtain ⟨w2,hw2⟩:∃ V,V=w1.alloc (.map #[] 0):=⟨_,rfl⟩;have hb2:Below w1.heap.size w1 w2:=by rw [hw2];exact Qag
 have HM2:=Zh (show MpQ w2 mb 0 (fun _ _=>none) by rw [hw2,hmb];exact MpQ.new w1);have s2:w2.heap.size=mb+1:=by rw [hw2,World.size_alloc,hmb]
 obtain ⟨w4,hw4⟩:∃ V,V=w2.alloc (.cells #[.pointer (some ⟨g,0,none⟩),.pointer (some ⟨o,0,none⟩),.slice CA NC cC,.slice TA nt ct,.slice Q L cq,.map (some mb)] 225):=⟨_,rfl⟩;have hB4:Blk w4 (mb+1) 225 #[.pointer (some ⟨g,0,none⟩),.pointer (some ⟨o,0,none⟩),.slice CA NC cC,.slice TA nt ct,.slice Q L cq,.map (some mb)]:=by rw [hw4];exact Blk.new' _ _ _ s2.symm
 have hb4:Bw w2 w4:=by rw [hw4];exact (Zr _ _).alloc (Zn _) _
 have s4:w4.heap.size=mb+2:=by rw [hw4,World.size_alloc,s2]
 have s1:w.heap.size≤mb:=by rw [hmb];exact hb1.size
 have hb14:=Zb hb2 hb4;have hb04:=Zb hb1 hb14;have hle:Le w (msk w4 (fun b=>b<w4.heap.size∧b≠mb)):=Le.mskBelow hb04 (fun b hb=>⟨Oo,Oo⟩);have hmk4:∀ i v,w4.cell? ⟨mb+1,i,none⟩=some v→(msk w4 (fun b=>b<w4.heap.size∧b≠mb)).cell? ⟨mb+1,i,none⟩=some v:=fun i v h=>Qgo h ⟨Oo,Oo⟩
 have hqq:RdT (msk w4 (fun b=>b<w4.heap.size∧b≠mb)) Q L ls:=HQ.o.le (fun a v h=>by
  obtain ⟨h1,h2⟩:=Qat.1 h;exact Qat.2 ⟨⟨by have:=h1.2;omega,by have:=h1.2;omega⟩,Zc hb14 (Zn _) h2⟩)
 rw [←hmb,←hw2,←hw4];clear hw2 hw4;go_ret;exact ⟨mb+1,Q,cq,mb,rfl,⟨HG.o.le hle,HO.o.le hle,hqq,HC.o.le hle,HTT.o.le hle,hmk4 _ _ (Zq hB4),hmk4 _ _ (Zq hB4),hmk4 _ _ (Zq hB4),hmk4 _ _ (Zq hB4),hmk4 _ _ (Zq hB4),hmk4 _ _ (Zq hB4)⟩,HM2.o.below hb4,s1,hb04⟩
theorem Rdw {N:Qak}{l:Iz} (h:∀ (i:Nat) (a:Int),l[i]?=some a→0≤a∧a<(N.ar.length:Int)) (i:Nat) (t:Int) (ht:l[i]?=some t):∃ (a:Nat) (y:Tri),t=(a:Int)∧N.ar[a]?=some y:=by have:=h i t ht;exact ⟨t.toNat,_,Oo,Zg Oo⟩
structure TbW (W:World) (mb tb ns nt:Nat) (rows:Lz):Prop where
 bk:∃ cs:Array Value,Blk W tb 37 cs∧cs.size=ns∧∀ (k:Nat) (row:Iz),rows[k]?=some row→∃ rb,cs[k]?=some (Value.slice (some ⟨rb,0,none⟩) nt nt)∧Blk W rb 2 (Qbr row)∧row.length=nt∧rb≠mb∧rb≠tb
 ne:tb≠mb
section
variable {W W':World} {mb tb ns nt:Nat} {rows:Lz}
theorem TbW.new (w:World)(h:mb<w.heap.size):TbW (w.alloc (.cells (Qbg (.slice none 0 0) ns) 37)) mb w.heap.size ns nt [] :=
 ⟨⟨_,Blk.new _ _ _,by simp [Qbg],fun k row h=>by simp at h⟩,Oo⟩
theorem TbW.nx (h:TbW W mb tb ns nt rows)(hx:Nxw mb W W'):TbW W' mb tb ns nt rows:=by obtain ⟨⟨cs,h1,h2,h3⟩,h4⟩:=h;refine ⟨⟨cs,(hx.kept tb h4 h1.lt).trans h1,h2,fun k row hk=>?_⟩,h4⟩;obtain ⟨rb,g1,g2,g3,g4,g5⟩:=h3 k row hk;exact ⟨rb,g1,(hx.kept rb g4 g2.lt).trans g2,g3,g4,g5⟩
theorem TbW.put {rb:Nat}{row:Iz}(h:TbW W mb tb ns nt rows) (hB:Blk W rb 2 (Qbr row)) (h1:row.length=nt) (h2:rb≠mb) (h3:rb≠tb) (h4:rows.length<ns) :
 TbW (W.setCell ⟨tb,rows.length,none⟩ (.slice (some ⟨rb,0,none⟩) nt nt)) mb tb ns nt (rows ++[row]):=by
 obtain ⟨⟨cs,k1,k2,k3⟩,k4⟩:=h;refine ⟨⟨_,k1.set_ _ _,by rw [Array.size_setIfInBounds];exact k2,fun k r hk=>?_⟩,k4⟩;by_cases e:k<rows.length
 {rw [Yc e] at hk;obtain ⟨b,g1,g2,g3,g4,g5⟩:=k3 k r hk;exact ⟨b,by rw [Array.getElem?_setIfInBounds_ne Oo];exact g1,g2.far_ g5 _,g3,g4,g5⟩};{have hl:=(Zs hk).1;(rw [Yp,List.length_singleton] at hl;obtain rfl:k=rows.length:=Oo);rw [Yb (Zn _),Yy] at hk;cases hk;exact ⟨rb,by rw [Array.getElem?_setIfInBounds_self_of_lt Oo],hB.far_ h3 _,h1,h2,h3⟩}
theorem TbW.cell (h:TbW W mb tb ns nt rows){i:Nat}(hi:i<ns):(∃ v,W.cell? ⟨tb,i,none⟩=some v)∧W.frozen? ⟨tb,i,none⟩=false:=by exact Kdc
theorem TbW.rdT (h:TbW W mb tb ns nt rows)(hl:rows.length=ns)(hn:nt≤1000000):RdT W (some ⟨tb,0,none⟩) ns rows:=by exact Kci
theorem TbW.lt (h:TbW W mb tb ns nt rows):tb<W.heap.size:=by obtain ⟨⟨cs,k1,_⟩,_⟩:=h;exact k1.lt
end
def MtbP (w:World)(N:Qak)(ns:Nat)(sl tl:Iz) (b:Option (ByteArray×Int×Int)) (e:Ending) (w':World):Prop :=
 (match b with|none=>∃ A rows,e=.returned (.tuple #[.slice A ns ns,.nilIface])∧RdT w' A ns rows∧(∀ (k:Nat) (s:Int),sl[k]?=some s→∃ row,rows[k]?=some row∧Qqc N s.toNat tl row)|some (p,k,c)=>∃ v,e=.returned (.tuple #[.slice none 0 0,v])∧Qci w' v [(p,k)] c)∧Bw w w'
theorem Quv (w:World)(g o:Nat)(N:Qak) (ls:Lz) (CA:Oz) (NC cC S:Nat) (cl:Iz) (SA TA:Oz) (ns cs nt ct:Nat) (sl tl:Iz) (hg:Qfg w g N) (ho:Qjm w o N.ar ls) (hc:RdI w CA NC cl) (hs:RdI w SA ns sl) (ht:RdI w TA nt tl) (hok:Qar N) (hP:Qbt N.vs.length ls) (hS:S=Qcy (Qah N.ar ls)) (hA:NC=S→Qes N ls cl) (hcc:NC≤cC∧cC≤9223372036854775807) (hSm:S≤1000000000) :
 Calls prog 41 #[.pointer (some ⟨g,0,none⟩),.pointer (some ⟨o,0,none⟩),.slice CA NC cC,.slice SA ns cs,.slice TA nt ct] w (MtbP w N ns sl tl (Rap ns nt NC S N.ar.length sl tl)):=by
 obtain ⟨m,hmm⟩:=Zx N.ar.length;have HSZ:=Zh (show Calls prog 70 #[.pointer (some ⟨o,0,none⟩)] w fun e w'=>e=.returned (.int .i64 (S:Nat))∧w=w' from by rw [hS];exact Qva o N.ar ls w ho);have HKS:=Zh (show ns≤1000000→Calls prog 76 #[.pointer (some ⟨g,0,none⟩),.string (⟨#[102,114,111,109]⟩:ByteArray),.slice SA ns cs] w (KnwP w (⟨#[102,114,111,109]⟩:ByteArray) (Qfq m sl)) from fun h=>by rw [hmm];exact Qut w g N (⟨#[102,114,111,109]⟩:ByteArray) SA ns cs sl hg hs h);have HKN:=Zh (fun V (hV:Bw w V) (hnt:nt≤1000000)=>show Calls prog 76 #[.pointer (some ⟨g,0,none⟩),.string (⟨#[116,111]⟩:ByteArray),.slice TA nt ct] V (KnwP V (⟨#[116,111]⟩:ByteArray) (Qfq m tl)) from by rw [hmm];exact Qut V g N (⟨#[116,111]⟩:ByteArray) TA nt ct tl (hg.below hV) (ht.below hV) hnt);have HNQ:=Zh (fun V (hV:Bw w V)=>Quu V g o N ls TA nt ct tl CA NC cC cl (hg.below hV) (ho.below hV) (hc.below hV) (ht.below hV) hok hP);have HRW:=Zh (fun (hNS:NC=S) (V:World) (qb:Nat) (Q:Oz) (cq mb sn:Nat) (xs:Tri) G n f h hGm hGl hm hn hmc hxs hts hnt=>mRow_ok V qb g o N ls TA nt ct tl CA NC cC cl Q ls.length cq mb sn xs G n f h hGm hGl hm hn hmc hok hP (hA hNS) hcc (hS▸hSm) hxs hts hnt);have HDS:=Zh (fun (hNS:NC=S) (sn:Nat) (xs:Tri) (row:Iz) (hxs:N.ar[sn]?=some xs) (h:RowQ N ls (avM N sn tl nt) sn tl row)=>h.dist hok hP (hA hNS) hxs ht.1);have HMM:=Zh hmm;have HSL:=Zh (fun V (hV:Bw w V)=>hs.below hV);have HLS:=Zh hs.1;have HLT:=Zh ht.1;rw [←hmm];clear hg ho hc hs ht hok hP hS hA hcc hmm;unfold Rap;by_cases i0:64<ns
 {rw [if_pos i0];(unfold MtbP;have i0':64<(ns:Int):=Oo);(go_enter func41,ntmps41);exact Kar};rw [if_neg i0];have i0':¬64<(ns:Int):=Oo
 by_cases i1:64<nt
 {rw [if_pos i1];(unfold MtbP;have i1':64<(nt:Int):=Oo);(go_enter func41,ntmps41);exact Kar};rw [if_neg i1];have i1':¬64<(nt:Int):=Oo
 by_cases i2:NC=S;rotate_left;{rw [if_pos i2];(unfold MtbP;have i2':¬(NC:Int)=S:=Oo);(go_enter func41,ntmps41);(go_wp2_with fail);(with_reducible refine HSZ.o.mono ?_);rintro r w' ⟨rfl,rfl⟩;exact Kar};rw [if_neg (fun h=>h i2)];subst i2
 cases hbs:Qfq m sl with
 | some i =>
  rw [hbs] at HKS;unfold MtbP;clear HNQ HRW HDS;go_enter func41,ntmps41
  go_wp2_with fail
  with_reducible refine HSZ.o.mono ?_
  rintro r w' ⟨rfl,rfl⟩;go_wp2_with fail
  with_reducible refine (HKS.o Oo).mono ?_
  rintro r w6 ⟨⟨v,rfl,hc5⟩,hb6⟩;obtain ⟨tv,xv,rfl⟩:=Qaw hc5;have HC:=Zh hc5;clear hc5;go_wp2_with fail
  refine bodyPost_ret (v:=.tuple #[.slice none 0 0,.iface tv xv]) (by simp [results,results41,go_sem]) rfl ?_;exact ⟨⟨_,rfl,HC.o⟩,hb6⟩
 | none =>
 rw [hbs] at HKS
 cases hbt:Qfq m tl with
 | some i =>
  rw [hbt] at HKN;rw [Option.map_some];unfold MtbP;clear HNQ HRW HDS;go_enter func41,ntmps41
  go_wp2_with fail
  with_reducible refine HSZ.o.mono ?_
  rintro r w' ⟨rfl,rfl⟩;go_wp2_with fail
  with_reducible refine (HKS.o Oo).mono ?_
  rintro r w5 ⟨rfl,hb5⟩;go_wp2_with fail
  with_reducible refine (HKN.o w5 hb5 Oo).mono ?_
  rintro r w6 ⟨⟨v,rfl,hc5⟩,hb6⟩;obtain ⟨tv,xv,rfl⟩:=Qaw hc5;have HC:=Zh hc5;clear hc5;go_wp2_with fail
  refine bodyPost_ret (v:=.tuple #[.slice none 0 0,.iface tv xv]) (by simp [results,results41,go_sem]) rfl ?_;exact ⟨⟨_,rfl,HC.o⟩,Zb hb5 hb6⟩
 | none =>
 rw [hbt] at HKN;rw [Option.map_none];have HSS:=Zh (Rdw (N:=N) (l:=sl) (by rw [←HMM.o];exact Qng hbs));have HTS:=Zh (Rdw (N:=N) (l:=tl) (by rw [←HMM.o];exact Qng hbt));have hmt:=Qqt ns Oo;clear hbs hbt HMM;go_enter func41,ntmps41
 go_wp2_with fail
 with_reducible refine HSZ.o.mono ?_
 rintro r w' ⟨rfl,rfl⟩;go_wp2_with fail
 with_reducible refine (HKS.o Oo).mono ?_
 rintro r w4 ⟨rfl,hb4⟩;have HB4:=Zh hb4;clear hb4;go_wp2_with fail
 with_reducible refine (HKN.o w4 HB4.o Oo).mono ?_
 rintro r w5 ⟨rfl,hb5⟩;have HB5:=Zh (Zb HB4.o hb5);clear hb5;go_wp2_with fail
 with_reducible refine (HNQ.o w5 HB5.o).mono ?_
 rintro r w6 ⟨qb,Q,cq,mb,rfl,hq,hm,hmb,hb6⟩;have HQ6:=Zh hq;have HM6:=Zh hm;have HMB:=Zh hmb;have HB6:=Zh (Zb HB5.o hb6);clear hq hm hmb hb6 HNQ;go_wp2_with fail
 (refine Qai ?_;intro w7 hw7);have hb7:Below w6.heap.size w6 w7:=by rw [hw7];exact Qag
 obtain ⟨tb,htb⟩:=Zx w6.heap.size;have hT7:TbW w7 mb tb ns nt []:=by rw [hw7,htb];exact TbW.new _ HM6.o.lt
 have hz7:w6.heap.size<w7.heap.size:=by rw [hw7];simp
 have hml:=HM6.o.lt
 have H7:=Zh (show ∃ (i n:Nat) (G:Nat→Prop) (f:Nat→Nat→Option Value) (rows:Lz),i≤ns∧Value.int .i64 0=.int .i64 i∧rows.length=i∧MR (msk w7 G) qb g o N ls TA nt ct tl CA NC cC cl Q ls.length cq mb∧((∀ b,G b→b<w7.heap.size)∧¬G mb∧¬G tb)∧MpQ w7 mb n f∧n≤i*16384∧MpC w7 G N.ar ls f∧TbW w7 mb tb ns nt rows∧(∀ (k:Nat) (s:Int),k<i→sl[k]?=some s→∃ row,rows[k]?=some row∧Qqc N s.toNat tl row)∧Bw w w7 from
  ⟨0,0,_,_,[],Nat.zero_le _,rfl,rfl,HQ6.o.le (Qaz.msk (Qaz.below hb7)),⟨fun b hb=>by have:=hb.1;omega,fun h=>h.2 rfl,fun h=>by have:=h.1;omega⟩,HM6.o.below hb7,Oo,(fun i k u hu=>by cases hu),hT7,(fun k s hk=>by omega),Zb HB6.o hb7⟩)
 have HTB:=Zh (show w.heap.size≤tb∧w.heap.size≤mb from ⟨by rw [htb];exact HB6.o.size,Yx HB5.o.size HMB.o⟩);rw [←htb];clear hw7 hb7 hT7 hz7 hml htb HQ6 HM6 HMB HB4 HB5 HB6 hmt;go_loopw [54] (fun q W=>∃ (i n:Nat) (G:Nat→Prop) (f:Nat→Nat→Option Value) (rows:Lz),i≤ns∧q=.int .i64 i∧rows.length=i∧MR (msk W G) qb g o N ls TA nt ct tl CA NC cC cl Q ls.length cq mb∧((∀ b,G b→b<W.heap.size)∧¬G mb∧¬G tb)∧MpQ W mb n f∧n≤i*16384∧MpC W G N.ar ls f∧TbW W mb tb ns nt rows∧(∀ (k:Nat) (s:Int),k<i→sl[k]?=some s→∃ row,rows[k]?=some row∧Qqc N s.toNat tl row)∧Bw w W) (fun q _=>ns-(intOf q).toNat)
 case atStart=>exact H7.o
 case round =>
  clear H7;obtain ⟨i,n,G,f,rows,hi,rfl,hrl,hq,hG,hm,hn,hmc,ht,hrw,hb⟩:=hrel;by_cases hlt:i<ns
  rotate_left;{(obtain rfl:i=ns:=Oo);(have i3:¬(i:Int)<i:=Oo);have HR:=Zh (ht.rdT hrl Oo);have HRR:=Zh hrw;have HBB:=Zh hb;clear hq hG hm hn hmc ht hrw hb;(go_wp2_with fail);refine bodyPost_ret (v:=.tuple #[.slice (some ⟨tb,0,none⟩) i i,.nilIface]) (by simp [results,results41,go_sem]) rfl ?_;unfold MtbP;exact ⟨⟨_,rows,rfl,HR.o,fun k s hk=>HRR.o k s (by have:=(Zs hk).1;have:=HLS.o;omega) hk⟩,HBB.o⟩};obtain ⟨sb,so,x,hSA,hx,cs0⟩:=(HSL.o wr hb).at_ hlt;obtain ⟨sn,xs,rfl,hxs⟩:=HSS.o i x hx;have HX:=Zh hx;have HXS:=Zh hxs;have HRO:=Zh (HRW.o (by first|rfl|trivial) wr qb Q cq mb sn xs G n f hq hG.2.1 hG.1 hm Oo hmc hxs HTS.o Oo);have i3:(i:Int)<ns:=Oo
  have i4:0≤(i:Int):=Oo
  have HQ:=Zh hq;have HG:=Zh hG;have HN:=Zh hn;have HT:=Zh ht;have HRR:=Zh hrw;have HBB:=Zh hb;have HML:=Zh hm.lt;have HRL:=Zh hrl;subst hSA;clear hq hG hm hn hmc ht hrw hb hx hxs;go_wp2_with fail
  with_reducible refine HRO.o.mono ?_
  rintro e w8 ⟨rb,n',f',row,rfl,hrq,hrb,hge,hm8,hn8,hmc8,hnx⟩;have ht8:=HT.o.nx hnx;obtain ⟨⟨ov,t0⟩,t1⟩:=ht8.cell hlt;have hlr:row.length=nt:=by rw [hrq.1];exact HLT.o
  have hm1:=HML.o;have ht1:=HT.o.lt;have hsz:=hnx.size;have hrt:=hrb.lt;have hng:¬G2 G wr w8 tb:=fun h=>h.elim HG.o.2.2 (fun h=>by omega)
  have hngm:¬G2 G wr w8 mb:=fun h=>h.elim HG.o.2.1 (fun h=>by omega)
  have HRD:=Zh (HDS.o (by first|rfl|trivial) sn xs row HXS.o hrq);have HK:=Zh (show Qaz (G2 G wr w8) w8 (w8.setCell ⟨tb,i,none⟩ (.slice (some ⟨rb,0,none⟩) nt nt)) from Qaz.set _ _ _ _ hng);have HQ9:=Zh ((HQ.o.le (G2.le hnx HG.o.2.1)).le (Qaz.msk HK.o));have HM9:=Zh (hm8.set (g:=tb) (i:=i) HT.o.ne (.slice (some ⟨rb,0,none⟩) nt nt));have HC9:=Zh (hmc8.le (Qaz.msk HK.o));have HG9:=Zh (show (∀ b,G2 G wr w8 b→b<w8.heap.size)∧¬G2 G wr w8 mb∧¬G2 G wr w8 tb from ⟨fun b hb=>hb.elim (fun h=>by have:=HG.o.1 b h;omega) (fun h=>h.2),hngm,hng⟩);have HT9:=Zh (show TbW (w8.setCell ⟨tb,i,none⟩ (.slice (some ⟨rb,0,none⟩) nt nt)) mb tb ns nt (rows ++[row]) from HRL.o▸ht8.put hrb hlr Oo Oo (by have:=HRL.o;omega));have HB9:=Zh (show Bw w (w8.setCell ⟨tb,i,none⟩ (.slice (some ⟨rb,0,none⟩) nt nt)) from (HBB.o.trans (hnx.bel _ HTB.o.2)).setCell (by simp only;exact HTB.o.1) _);have HN9:=Zh (show n'≤(i+1)*16384 by have:=HN.o;omega)
  have HR9:=Zh (show ∀ (k:Nat) (s:Int),k<i+1→sl[k]?=some s→∃ r,(rows ++[row])[k]?=some r∧Qqc N s.toNat tl r from fun k s hk hs=>by
   by_cases e:k<i
   · obtain ⟨r,h1,h2⟩:=HRR.o k s e hs
     exact ⟨r,by rw [Yc (by have:=HRL.o;omega)];exact h1,h2⟩
   · obtain rfl:k=i:=by omega
     rw [HX.o] at hs
     cases hs
     exact ⟨row,by rw [Yb (by have:=HRL.o;omega),HRL.o,Yy];rfl,HRD.o⟩)
  clear hrq hrb hge hm8 hn8 hmc8 hnx ht8 hlr hng hngm hm1 ht1 hsz hrt HRO;go_wp2_with fail
  go_roundw;case rel=>exact ⟨i+1,n',_,f',_,Oo,by go_num,by rw [Yp,HRL.o];rfl,HQ9.o,⟨fun b hb=>by simpa [World.setCell] using HG9.o.1 b hb,HG9.o.2⟩,HM9.o,HN9.o,HC9.o,HT9.o,HR9.o,HB9.o⟩
  case measure=>simp [intOf];omega
def MakP (w:World)(N:Qak)(dep cap lim:Int)(n:Nat) (st:Pz) (e:Ending) (w':World):Prop :=
 (∃ b,PlB N dep cap lim st b∧match b with|some (p,k,c)=>∃ v,e=.returned (.tuple #[.agg #[.slice none 0 0,.int .i64 0],v])∧Qci w' v [(p,k)] c|none=>∃ d a m c out,Qpl N (Qif dep st) d∧e=.returned (.tuple #[.agg #[.slice (some a) m c,.int .i64 (Qba d out)],.nilIface])∧RdT w' (some a) m out∧Qtk n cap lim d st out∧Qra cap lim d st)∧Bw w w'
theorem Qqo {n:Nat}{cap lim:Int} {ls R:Lz} {st:Pz} {L:List Sv} (hs:sqB (n+1) ls=true) (hn:st.length=n) (hf:Qra cap lim ls st) (hL:L.Perm (Qjo ls)) (hR:R.Perm (L.foldl (Qbp cap lim ls st) (Qbs n))):Qea n cap lim ls st R=true:=decide_eq_true (Qsw hs hn hf hL hR).1
theorem tbl_good {ns nt NC m:Nat}{sl tl:Iz}(h1:ns≤64)(h2:nt≤64) (hs:∀ (i:Nat) a,sl[i]?=some a→0≤a∧a<(m:Int)) (ht:∀ (i:Nat) a,tl[i]?=some a→0≤a∧a<(m:Int)):Rap ns nt NC NC m sl tl=none:=by unfold Rap;rw [if_neg Oo,if_neg Oo,if_neg (fun h=>h rfl),Qkt hs,Qkt ht];rfl
theorem Qci.le {w w':World}(hb:Le w w'):∀ {ps:List (ByteArray×Int)} {v:Value} {c:Int},Qci w v ps c→Qci w' v ps c
 | [],_,_,h=>h
 | _::_,_,_,h=>by obtain ⟨b,o,u,h1,h2,h3,h4,h5⟩:=h;exact ⟨b,o,u,h1,hb _ _ h2,hb _ _ h3,hb _ _ h4,Qci.le hb h5⟩
theorem Le.same {w:World}{a:Addr}{v:Value}(h:w.cell? a=some v):Le w (w.setCell a v):=fun x u hx=>by by_cases e:x=a;{subst e;rw [hx] at h;cases h;exact World.cell?_setCell_same _ _ _ hx};{rw [World.cell?_setCell_other (h:=fun h=>e h.symm)];exact hx}
theorem RdT.pass {W:World}{pb m:Nat}{t:TypeId}{a:Oz} {out:Lz} (hB:Blk W pb t #[.slice none 0 0,.int .i64 0]) (h:RdT W a m out) (hr:∀ r∈out,r≠[]∧∀ s∈r,(1:Int)≤s):RdT (msk W (fun b=>b≠pb)) a m out:=by
 have hp:∀ o v,W.cell? ⟨pb,o,none⟩=some v→v=.slice none 0 0∨v=.int .i64 0:=fun o v hv=>by
  rw [hB.cell] at hv
  match o,hv with
  | 0,hv=>cases hv;exact .inl rfl
  | 1,hv=>cases hv;exact .inr rfl
  | o+2,hv=>simp at hv
 refine ⟨h.1,fun i l hl=>?_⟩;obtain ⟨b,o,A',n',c',rfl,hc,hrd,h4⟩:=h.2 i l hl;obtain ⟨hne,hs⟩:=hr l (Zm hl);refine ⟨b,o,A',n',c',rfl,Qat.2 ⟨fun e=>?_,hc⟩,⟨hrd.1,fun j x hx=>?_⟩,h4⟩;{simp only at e;subst e;(rcases hp _ _ hc with h1|h1);{cases h1;exact hne (List.eq_nil_of_length_eq_zero hrd.1)};{cases h1}};{obtain ⟨b',o',rfl,hx2⟩:=hrd.2 j x hx;refine ⟨b',o',rfl,Qat.2 ⟨fun e=>?_,hx2⟩⟩;simp only at e;subst e;(rcases hp _ _ hx2 with h1|h1);{cases h1};{cases h1;have:=hs 0 (Zm hx);omega}}
theorem Rhn {N:Nat}{cap lim:Int} {ls rs:Lz} {st:Pz} (h:Qea N cap lim ls st rs=true):∀ r∈rs,r≠[]∧∀ s∈r,(1:Int)≤s:=fun r hr=>by have h:=of_decide_eq_true h;exact ⟨(h.1 r hr).1,fun s hs=>(h.2.2.1 s (List.mem_flatten.2 ⟨r,hr,hs⟩)).1⟩
theorem Qgp (w:World)(g o:Nat)(N:Qak) (cs:Lz) (CA:Oz) (NC cC:Nat) (cl:Iz) (dep cap lim:Int) (A:Oz) (n c:Nat) (st:Pz) (hg:Qfg w g N) (ho:Qjm w o N.ar cs) (hc:RdI w CA NC cl) (hok:Qar N) (hP:Qbt N.vs.length cs) (hS:NC=Qcy (Qah N.ar cs)) (hA:Qes N cs cl) (hcc:NC≤cC∧cC≤9223372036854775807) (hSm:NC≤1000000000) (hj:RdP w A n st) (hn:n≤1000) :
 Calls prog 13 #[.pointer (some ⟨g,0,none⟩),.pointer (some ⟨o,0,none⟩),.slice CA NC cC,Qia dep cap lim A n c] w (MakP w N dep cap lim n st):=by
 obtain ⟨m,hmm⟩:=Zx N.ar.length;have HGA:=Zh (show ∀ V,Bw w V→Calls prog 39 #[.pointer (some ⟨g,0,none⟩)] V fun e w'=>e=.returned (.int .i64 m)∧V=w' from fun V hV=>by rw [hmm];exact Qdj g N V (hg.below hV));have HCK:=Zh (fun V (hV:Bw w V)=>Qhk m dep cap lim A n c st V (hj.below hV) Oo);have HPT:=Zh (fun V (hV:Bw w V)=>Qgm dep cap lim A n c st V (hj.below hV) Oo);have HTB:=Zh (fun V (hV:Bw w V) R d (hR:RdI V R (n+1) (Qif dep st))=>Quv V g o N cs CA NC cC NC cl R R (n+1) d (n+1) d (Qif dep st) (Qif dep st) (hg.below hV) (ho.below hV) (hc.below hV) hR hR hok hP hS (fun _=>hA) hcc hSm);have HFT:=Zh (fun V (hV:Bw w V) T tc ls (ht:RdT V T (n+1) ls) hs=>Qjd dep cap lim A T n c tc st ls V (hj.below hV) ht hs Oo);have HJN:=Zh (fun V (hV:Bw w V) T tc ls hL (ht:RdT V T (n+1) ls) hs hf hn9=>Qvo dep cap lim A T n c tc st ls V (hj.below hV) hL ht hs hf hn9);have HAL:=Zh (fun V (hV:Bw w V) T tc ls rs a0 m' d' hL (ht:RdT V T (n+1) ls) hs hn9 hR hr=>btAll_ok V dep cap lim A T n c tc st ls rs a0 m' d' (hj.below hV) hL ht hs hn9 hR hr);have HOK:=Zh hok;have HMM:=Zh hmm;have HJL:=Zh hj.1;clear hg ho hc hok hP hS hA hcc hSm hj hmm;go_enter func13,ntmps13
 go_wp2_with fail
 (refine Qai ?_;intro w1 hw1);have HB1:=Zh (show Bw w w1 by rw [hw1];exact Qag);have HJ1:=Zh (show Blk w1 w.heap.size 42 #[.int .i64 dep,.int .i64 cap,.int .i64 lim,.slice A n c] by rw [hw1];exact Blk.alloc (Blk.new _ _ _) _);have HP1:=Zh (show Blk w1 (w.heap.size+1) 45 #[.slice none 0 0,.int .i64 0] by rw [hw1];exact Blk.new' _ _ _ Sm);clear hw1;have HSX:=Zh (show ∀ V,Bw w1 V→V.cell? ⟨w.heap.size,0,none⟩=some (.int .i64 dep)∧V.cell? ⟨w.heap.size,1,none⟩=some (.int .i64 cap)∧V.cell? ⟨w.heap.size,2,none⟩=some (.int .i64 lim)∧V.cell? ⟨w.heap.size,3,none⟩=some (.slice A n c) from fun V hV=>(HJ1.o.below hV HJ1.o.lt).four);refine wp_region_held_drew (S:=fun V=>Bw w1 V) Kf (Zr _ _).drew (fun _=>?_);refine tz 0 16 ?_;refine tz 2 18 ?_;refine Zk 1 (fun K hK=>?_);go_simp;with_reducible refine (HGA.o _ (HB1.o.drew)).mono ?_
 rintro e w' ⟨rfl,rfl⟩;go_simp;refine hK.out _ _ (Zr _ _).drew (fun _=>?_);clear hK K;refine Zk 3 (fun K hK=>?_);go_simp;with_reducible refine (HCK.o _ (HB1.o.drew)).mono ?_
 cases hjb:Qbf m dep cap lim st with
 | some x =>
  obtain ⟨px,kx,cx⟩:=x;unfold ErP;rintro e w2 ⟨⟨v,rfl,hc⟩,hb2⟩;have HBX:=Zh ((Zr w1.heap.size w1).drew.trans hb2);have HPB:=Zh (show PlB N dep cap lim st (some (px,kx,cx)) from .inl ⟨_,by rw [←HMM.o];exact hjb,rfl⟩);clear hb2 hjb;go_simp;refine hK.out _ _ HBX.o (fun _=>?_);clear hK K;refine tz 4 10 ?_;refine Zd ?_;obtain ⟨tv,xv,rfl⟩:=Qaw hc;have HC:=Zh hc;have HPX:=Zh (HP1.o.below HBX.o HP1.o.lt);have HBW:=Zh (Zb HB1.o HBX.o);have p0:w2.cell? ⟨w.heap.size+1,0,none⟩=some (.slice none 0 0):=Zq HPX.o;have p1:w2.cell? ⟨w.heap.size+1,1,none⟩=some (.int .i64 0):=Zq HPX.o;have f0:=HPX.o.frozen 0;have f1:=HPX.o.frozen 1;clear hc HSX;go_wp2_with fail
  (refine Qce ?_;intro Wf hWf);have hle:Le w2 Wf:=by rw [hWf];exact (Le.same p0).trans (Le.same (Le.same p0 _ _ p1))
  have hbf:Bw w Wf:=by rw [hWf];exact (HBW.o.setCell Sm _).setCell Sm _
  have q0:=hle _ _ p0;have q1:=hle _ _ p1;refine bodyPost_ret (v:=.tuple #[.agg #[.slice none 0 0,.int .i64 0],.iface tv xv]) (by simp [results,results13,go_sem,q0,q1]) rfl ?_;unfold MakP;exact ⟨⟨some _,HPB.o,_,rfl,HC.o.le hle⟩,hbf⟩
 | none =>
  have HJK:=Zh (Qex hjb);unfold ErP;rintro e w2 ⟨rfl,hb2⟩;have HB2:=Zh ((Zr w1.heap.size w1).drew.trans hb2);have HJN0:=Zh (show Qbf N.ar.length dep cap lim st=none by rw [←HMM.o];exact hjb);clear hb2 hjb;go_simp;refine hK.out _ _ HB2.o (fun _=>?_);clear hK K;refine tz 4 10 ?_;refine Zd ?_;obtain ⟨x0,x1,x2,x3⟩:=HSX.o w2 HB2.o;go_wp2_with fail
  with_reducible refine (HPT.o w2 (Zb HB1.o HB2.o)).mono ?_
  unfold PtsP;rintro e w3 ⟨⟨R,d,rfl,hR⟩,hb3⟩;have HB3:=Zh (Zb HB2.o hb3);have hTb:=HTB.o w3 (Zb HB1.o HB3.o) R d hR;rw [tbl_good (by have:=HJK.o.n;have:=HJL.o;omega) (by have:=HJK.o.n;have:=HJL.o;omega) (by rw [←HMM.o];exact HJK.o.pts) (by rw [←HMM.o];exact HJK.o.pts)] at hTb;have HTX:=Zh hTb;clear hR hb3 hTb HB2 x0 x1 x2 x3 HPT HTB;go_wp2_with fail
  with_reducible refine HTX.o.mono ?_
  unfold MtbP;rintro e w4 ⟨⟨TA,rows,rfl,hrt,hrr⟩,hb4⟩;have HB4:=Zh (Zb HB3.o hb4);have HRT:=Zh hrt
  have HMD:=Zh (show Qpl N (Qif dep st) rows from ⟨by rw [hrt.1,Qgq,HJL.o],fun i s hs=>by
   obtain ⟨row,h1,h2⟩:=hrr i s hs;exact ⟨row,h1,h2.mod (by have:=HJK.o.pts i s hs;rw [HMM.o] at this;exact this) (by have:=HJK.o.pts;rw [HMM.o] at this;exact this)⟩⟩)
  have HSQ:=Zh (show sqB (n+1) rows=true by have:=HMD.o.sq HOK.o;rwa [Qgq,HJL.o] at this);have HFX:=Zh (HFT.o w4 (Zb HB1.o HB4.o) TA (n+1) rows hrt HSQ.o);obtain ⟨x0,x1,x2,x3⟩:=HSX.o w4 HB4.o;clear hrt hrr hb4 HB3 HTX HFT;go_wp2_with fail
  with_reducible refine HFX.o.mono ?_
  clear HFX
  cases hfb:Qcm cap lim rows st with
  | some x =>obtain ⟨px,kx,cx⟩:=x;unfold ErP;rintro e w5 ⟨⟨v,rfl,hc⟩,hb5⟩;have HBX:=Zh (Zb HB4.o hb5);have HPB:=Zh (show PlB N dep cap lim st (some (px,kx,cx)) from .inr ⟨HJN0.o,rows,HMD.o,hfb.symm⟩);clear hb5 hfb x0 x1 x2 x3;obtain ⟨tv,xv,rfl⟩:=Qaw hc;have HC:=Zh hc;have HPX:=Zh (HP1.o.below HBX.o HP1.o.lt);have HBW:=Zh (Zb HB1.o HBX.o);have p0:w5.cell? ⟨w.heap.size+1,0,none⟩=some (.slice none 0 0):=Zq HPX.o;have p1:w5.cell? ⟨w.heap.size+1,1,none⟩=some (.int .i64 0):=Zq HPX.o;have f0:=HPX.o.frozen 0;have f1:=HPX.o.frozen 1;clear hc HSX;(go_wp2_with fail);(refine Qce ?_;intro Wf hWf);(have hle:Le w5 Wf:=by rw [hWf];exact (Le.same p0).trans (Le.same (Le.same p0 _ _ p1)));(have hbf:Bw w Wf:=by rw [hWf];exact (HBW.o.setCell Sm _).setCell Sm _);have q0:=hle _ _ p0;have q1:=hle _ _ p1;refine bodyPost_ret (v:=.tuple #[.agg #[.slice none 0 0,.int .i64 0],.iface tv xv]) (by simp [results,results13,go_sem,q0,q1]) rfl ?_;unfold MakP;exact ⟨⟨some _,HPB.o,_,rfl,HC.o.le hle⟩,hbf⟩
  | none =>unfold ErP;rintro e w5 ⟨rfl,hb5⟩;have HB5:=Zh (Zb HB4.o hb5);have HFI:=Zh (Qrq.1 hfb);have HPB:=Zh (show PlB N dep cap lim st none from .inr ⟨HJN0.o,rows,HMD.o,hfb.symm⟩);have HT5:=Zh (HRT.o.below hb5);have HJX:=Zh (HJN.o w5 (Zb HB1.o HB5.o) TA (n+1) rows HJK.o.ld HT5.o HSQ.o HFI.o (by have:=HJK.o.n;have:=HJL.o;omega));clear hb5 hfb x0 x1 x2 x3 HJN HRT HB4;obtain ⟨x0,x1,x2,x3⟩:=HSX.o w5 HB5.o;(go_wp2_with fail);(with_reducible refine HJX.o.mono ?_);rintro e w6 ⟨a6,m6,c6,L,Rr,rfl,hT,hL1,hL2,hR1,hR2,hb6⟩;have HB6:=Zh (Zb HB5.o hb6);have HT6:=Zh (HT5.o.below hb6);have HRI:=Zh (Qqo HSQ.o HJL.o HFI.o hL1 hR1);have HMA:=Zh (fun out (h:Qks n cap lim rows st Rr out)=>show Qtk n cap lim rows st out from ⟨L,Rr,hL1,hL2,hR1,hR2,h⟩);have HAX:=Zh (HAL.o w6 (Zb HB1.o HB6.o) TA (n+1) rows Rr a6 m6 c6 HJK.o.ld HT6.o (Qlq HSQ.o) (by have:=HJK.o.n;have:=HJL.o;omega) hT HRI.o);clear hT hL1 hL2 hR1 hR2 hb6 x0 x1 x2 x3 HJX HAL HT5 HB5;obtain ⟨x0,x1,x2,x3⟩:=HSX.o w6 HB6.o;(go_wp2_with fail);(with_reducible refine HAX.o.mono ?_);unfold AllP;rintro e w7 ⟨⟨a7,m7,c7,out,rfl,hr7,hall⟩,hb7⟩;have HB7:=Zh (Zb HB6.o hb7);have HRO:=Zh (hall.right n cap lim rows st HRI.o).1;have hbd:=Qgt HRO.o;have HM7:=Zh (HMA.o out hall);have HR7:=Zh hr7;have HTO:=Zh (Qgi TA (some a7) (n+1) (n+1) m7 c7 rows out w7 (HT6.o.below hb7) (Qlq HSQ.o) Oo hr7 (fun r h=>by have:=hbd.2.1 r h;omega) (by have:=hr7.1;have:=hbd.1;omega));have HPX:=Zh (HP1.o.below HB7.o HP1.o.lt);have p0:w7.cell? ⟨w.heap.size+1,0,none⟩=some (.slice none 0 0):=Zq HPX.o;have p1:w7.cell? ⟨w.heap.size+1,1,none⟩=some (.int .i64 0):=Zq HPX.o;have f0:=HPX.o.frozen 0;have f1:=HPX.o.frozen 1;obtain ⟨tot,htot⟩:∃ t,t=Qba rows out:=⟨_,rfl⟩;rw [←htot] at HTO;have HTT:=Zh htot;clear hr7 hall hb7 hbd htot x0 x1 x2 x3 HAX HMA HB6;(go_wp2_with fail);(with_reducible refine HTO.o.mono ?_);rintro e w' ⟨rfl,rfl⟩;(go_wp2_with fail);(refine Qce ?_;intro Wf hWf);have hpf:Blk Wf (w.heap.size+1) 45 #[.slice (some a7) m7 c7,.int .i64 tot]:=by{rw [hWf];exact (HPX.o.set_ 0 _).set_ 1 _};(have hbf:Bw w Wf:=by rw [hWf];exact ((Zb HB1.o HB7.o).setCell Sm _).setCell Sm _);have hrf:RdT Wf (some a7) m7 out:=by{have h1:=(HR7.o.pass HPX.o (Rhn HRO.o)).le (Qaz.msk (W':=Wf) (by rw [hWf];exact (Qaz.set _ _ _ _ (fun h=>h rfl)).trans (Qaz.set _ _ _ _ (fun h=>h rfl)) (by simp [World.setCell])));exact h1.le (Qan _ _)};have q0:Wf.cell? ⟨w.heap.size+1,0,none⟩=some (.slice (some a7) m7 c7):=Zq hpf;have q1:Wf.cell? ⟨w.heap.size+1,1,none⟩=some (.int .i64 tot):=Zq hpf;refine bodyPost_ret (v:=.tuple #[.agg #[.slice (some a7) m7 c7,.int .i64 tot],.nilIface]) (by simp [results,results13,go_sem,q0,q1]) rfl ?_;unfold MakP;exact ⟨⟨none,HPB.o,rows,a7,m7,c7,out,HMD.o,by rw [HTT.o],hrf,HM7.o,HFI.o⟩,hbf⟩
def Qhd (N:Nat):Iz→Iz→Option Int
 | _,[]=>none
 | P,y::t=>if y<1∨(N:Int)<y then some 5 else if y∈P then some 6 else Qhd N (P ++[y]) t
def Qzt (N:Nat)(cap lim:Int) (ls:Lz) (st:Pz) (P r:Iz):Int :=
 if r=[] then 1 else match Qhd N P r with
  | some e=>e
  | none=>if Qdm st r > cap then 13 else if Qer ls r ≥ 1152921504606846976 then 12 else if Qer ls r > lim then 14 else 0
theorem Aft.bt {tb:Nat}{W W':World}(h:Bw W W')(ht:tb<W.heap.size):Aft (fun b=>b≠tb) W W':=⟨Qaz.below h,h.size,fun B hB=>h.mono (by
 rcases Nat.lt_or_ge tb B with h1|h1
 · exact absurd rfl (hB tb h1)
 · omega)⟩
def JdgP (w:World)(tb N:Nat)(P r:Iz)(c:Int)(e:Ending)(w':World):Prop:=∃ bl:List Bool,e=.returned (.int .i64 c)∧Blk w' tb 4 (Qdy bl)∧(r≠[]→Qhd N P r=none→Qgf N bl (P ++r))∧Aft (fun b=>b≠tb) w w'
theorem judge_ok (w:World)(dep cap lim:Int)(A R T:Oz)(n c m d tc tb:Nat) (st:Pz) (ls:Lz) (r P:Iz) (bl:List Bool) (h:RdP (msk w (fun b=>b≠tb)) A n st) (hL:Qtb st) (hr:RdI (msk w (fun b=>b≠tb)) R m r) (ht:RdT (msk w (fun b=>b≠tb)) T (n+1) ls) (hs:Sq (n+1) ls) (hn:n≤1000000) (hm:m≤1000000) (hB:Blk w tb 4 (Qdy bl)) (hse:Qgf n bl P) :
 Calls prog 56 #[Qia dep cap lim A n c,.slice T (n+1) tc,.slice R m d,.slice (some ⟨tb,0,none⟩) (n+1) (n+1)] w (JdgP w tb n P r (Qzt n cap lim ls st P r)):=by
 have HLD:=Zh (fun V (hV:Aft (fun b=>b≠tb) w V)=>Qny dep cap lim A R n c m d st r V ((h.le (Qaz.msk hV.kept)).le (Qan _ _)) hL ((hr.le (Qaz.msk hV.kept)).le (Qan _ _)) Oo Oo);have HLE:=Zh (fun V (hV:Aft (fun b=>b≠tb) w V)=>Qgl T R (n+1) tc m d ls r V ((ht.le (Qaz.msk hV.kept)).le (Qan _ _)) hs Oo ((hr.le (Qaz.msk hV.kept)).le (Qan _ _)) Oo);have HR:=Zh hr;have HRL:=Zh hr.1;have HB:=Zh hB;have HSE:=Zh hse;obtain ⟨jc,hjc⟩:∃ x,x=Qzt n cap lim ls st P r:=⟨_,rfl⟩;have HJC:=Zh hjc;rw [←hjc];clear h hL hr ht hs hB hse hjc;by_cases hm0:m=0;{have hr0:=List.eq_nil_of_length_eq_zero (HRL.o.trans hm0);have HE:=Zh (show jc=1 by rw [HJC.o];exact if_pos hr0);have HR0:=Zh hr0;subst hm0;clear hr0;(go_enter func56,ntmps56);(go_wp2_with fail);go_ret;unfold JdgP;rw [HE.o];exact ⟨bl,rfl,Blk.alloc HB.o _,fun h=>absurd HR0.o h,Aft.bt ((Zr _ _).alloc (Zn _) _) HB.o.lt⟩};have HNE:=Zh (show r≠[] from fun e=>hm0 (by rw [←HRL.o,e];rfl));have HJ1:=Zh (show ∀ x,Qhd n P r=some x→jc=x from fun x hx=>by rw [HJC.o];unfold Qzt;rw [if_neg HNE.o,hx]);have HJ2:=Zh (show Qhd n P r=none→jc=if Qdm st r > cap then 13 else if Qer ls r ≥ 1152921504606846976 then 12 else if Qer ls r > lim then 14 else 0 from fun hx=>by rw [HJC.o];unfold Qzt;rw [if_neg HNE.o,hx]);have e0:((m:Int) == 0)=false:=beq_eq_false_iff_ne.2 Oo;clear HJC;go_enter func56,ntmps56
 go_wp2_with fail
 (refine Qai ?_;intro w1 hw1);have hb1:Bw w w1:=by rw [hw1];exact Qag
 have HA1:=Zh (Aft.bt hb1 HB.o.lt);have HX1:=Zh (show Blk w1 w.heap.size 42 #[.int .i64 dep,.int .i64 cap,.int .i64 lim,.slice A n c] by rw [hw1];exact Blk.new _ _ _);have HB1:=Zh (HB.o.below hb1 HB.o.lt);have HTL:=Zh HB.o.lt;clear hw1 hb1 HB;go_loopw [17] (fun q W=>∃ (i:Nat) (bl:List Bool),i≤m∧q=.int .i64 i∧Blk W tb 4 (Qdy bl)∧Qgf n bl (P ++r.take i)∧Qhd n P r=Qhd n (P ++r.take i) (r.drop i)∧Blk W w.heap.size 42 #[.int .i64 dep,.int .i64 cap,.int .i64 lim,.slice A n c]∧Aft (fun b=>b≠tb) w W) (fun q _=>m-(intOf q).toNat)
 case atStart=>exact ⟨0,bl,Nat.zero_le _,rfl,HB1.o,by simpa using HSE.o,Sm,HX1.o,HA1.o⟩
 case round =>
  clear HB1 HX1 HA1 HSE;obtain ⟨i,bl,hi,rfl,hb,hse,hst,hx,ha⟩:=hrel;have HB:=Zh hb;have HSE:=Zh hse;have HST:=Zh hst;have HX:=Zh hx;have HA:=Zh ha;clear hb hse hst hx ha;by_cases hlt:i<m
  rotate_left;{(obtain rfl:i=m:=Oo);(have i1:¬(i:Int)<i:=Oo);(have hst0:Qhd n P r=none:=by rw [HST.o,List.drop_of_length_le (by rw [HRL.o];exact Zn _)];rfl);have HEQ:=Zh (HJ2.o hst0);have HSX0:=Zh (show r≠[]→Qhd n P r=none→Qgf n bl (P ++r) from fun _ _=>by have:=HSE.o;rwa [Ye (by rw [HRL.o];exact Zn _)] at this);have HLX:=Zh (HLE.o wr HA.o);have hlr:=Qxn ls r;obtain ⟨lr,hlr'⟩:∃ x,x=Qer ls r:=⟨_,rfl⟩;obtain ⟨ld,hld'⟩:∃ x,x=Qdm st r:=⟨_,rfl⟩;have HLDX:=Zh (HLD.o wr.drew ⟨HA.o.kept,HA.o.size,fun B hB=>(HA.o.bel B hB).drew⟩);rw [←hlr'] at HLX HEQ;rw [←hld'] at HLDX HEQ;obtain ⟨x0,x1,x2,x3⟩:=HX.o.four;have HSX:=Zh (show ∀ V,Bw wr V→V.cell? ⟨w.heap.size,0,none⟩=some (.int .i64 dep)∧V.cell? ⟨w.heap.size,1,none⟩=some (.int .i64 cap)∧V.cell? ⟨w.heap.size,2,none⟩=some (.int .i64 lim)∧V.cell? ⟨w.heap.size,3,none⟩=some (.slice A n c) from fun V hV=>(HX.o.below hV HX.o.lt).four);clear hst0 hlr hlr' hld' HLE HLD x0 x1 x2 x3;(go_wp2_with fail);(with_reducible refine HLX.o.mono ?_);rintro e w' ⟨rfl,rfl⟩;(go_wp2_with fail);(refine wp_region_held_drew (S:=fun V=>Bw wr V) Kf (Zr _ _).drew (fun _=>?_);refine tzb 0 41 ?_;refine tzb 3 44 ?_;refine Zk 2 (fun K hK=>?_);go_simp;with_reducible refine HLDX.o.mono ?_);rintro e w3 ⟨rfl,hb3⟩;have HB3:=Zh ((Zr wr.heap.size wr).drew.trans hb3);go_simp;refine hK.out _ _ HB3.o (fun _=>?_);clear hK K hb3;refine tz 5 46 ?_;refine tz 6 40 ?_;refine Zd ?_;have HAX:=Zh (HA.o.trans (Aft.bt HB3.o HB.o.lt));have HBX:=Zh (HB.o.below HB3.o HB.o.lt);obtain ⟨x0,x1,x2,x3⟩:=HSX.o w3 HB3.o;by_cases g1:ld > cap;{have HE:=Zh (show jc=13 by rw [HEQ.o,if_pos g1]);exact Kbo};by_cases g2:lr ≥ 1152921504606846976;{have HE:=Zh (show jc=12 by rw [HEQ.o,if_neg g1,if_pos g2]);exact Kbo};by_cases g3:lr > lim;{have HE:=Zh (show jc=14 by rw [HEQ.o,if_neg g1,if_neg g2,if_pos g3]);exact Kbo};have HE:=Zh (show jc=0 by rw [HEQ.o,if_neg g1,if_neg g2,if_neg g3]);exact Kbo};obtain ⟨b,o,y,rfl,hy,hc⟩:=HR.o.at_ hlt;have j1:=Qan _ _ _ _ (Qaz.msk HA.o.kept _ _ hc);have HY:=Zh hy;have hdr:r.drop i=y::r.drop (i+1):=by{rw [List.drop_eq_getElem_cons (Zs hy).1,(Zs hy).2]};have HDR:=Zh hdr;have i1:(i:Int)<m:=Oo
  have i2:0≤(i:Int):=Oo
  clear hy hc hdr;by_cases g1:y<1
  {(have hx:=show Qhd n P r=some 5 by rw [HST.o,HDR.o];exact if_pos (.inl g1));exact Kbt};by_cases g2:y ≥ (n:Int)+1;{(have hx:=show Qhd n P r=some 5 by rw [HST.o,HDR.o];exact if_pos (.inr Oo));exact Kbt};obtain ⟨z,rfl⟩:∃ z:Nat,y=z:=⟨y.toNat,Oo⟩;have hz:z≤n:=Oo
  have hsz:=HSE.o.2 z hz;have c2:=HB.o.cellB hsz;have i5:0≤(z:Int):=Oo
  have i6:(z:Int)<n+1:=Oo
  by_cases g3:(z:Int)∈P ++r.take i;{rw [decide_eq_true g3] at c2;have hx:=show Qhd n P r=some 6 by{exact Kcv};have HE:=Zh (HJ1.o 6 hx);have HF:=Zh (show r≠[]→Qhd n P r=none→Qgf n bl (P ++r) from fun _ h=>by rw [hx] at h;cases h);clear hx g3 hsz;(go_wp2_with fail);go_ret;unfold JdgP;rw [HE.o];exact ⟨bl,rfl,HB.o,HF.o,HA.o⟩};rw [decide_eq_false g3] at c2;have f2:=HB.o.frozen z;have HT:=Zh (Qpa HY.o P);have HSE2:=Zh (HSE.o.next hz);rw [←HT.o] at HSE2
  have HSN:=Zh (show Qhd n P r=Qhd n (P ++r.take (i+1)) (r.drop (i+1)) by
   rw [HST.o,HDR.o,HT.o]
   show (if (z:Int)<1∨(n:Int)<z then some 5 else if (z:Int)∈P ++r.take i then some 6 else _)=_
   rw [if_neg Oo,if_neg g3])
  have HX2:=Zh (show w.heap.size≠tb from by have:=HTL.o;omega);clear g3 hsz;go_wp2_with fail
  go_roundw;case rel=>exact ⟨i+1,_,Oo,by go_num,HB.o.setB rfl,HSE2.o,HSN.o,HX.o.far_ HX2.o _,HA.o.set (fun h=>h rfl) _⟩
  case measure=>simp [intOf];omega
theorem Qkx (w:World)(x y:Int)(h0:0≤x)(h1:0≤y)(h2:x+y≤1152921504606846976) :
 Calls prog 80 #[.int .i64 x,.int .i64 y] w fun e w'=>e=.returned (.int .i64 (x+y))∧w=w':=by
 have HX:=Zh (Qcl w x h0 Oo);have HY:=Zh (Qcl w y h1 Oo);have HZ:=Zh (Qcl w (x+y) Oo Oo);have e1:IntKind.i64.wrap (x+y)=x+y:=IntWalk.i64_in _ Oo;go_enter func80,ntmps80
 exact Kat
theorem Rbp (A:Oz)(c:Nat)(w:World)(x y z:Int) (h:RdI w A 3 [x,y,z]) (h0:0≤x) (h1:0≤y) (h2:0≤z) (h3:x+y+z≤1152921504606846976) :
 Calls prog 49 #[.slice A 3 c] w fun e w'=>e=.returned (.int .i64 (x+y+z))∧w=w':=by
 obtain ⟨b,o,rfl,c0⟩:=h.2 0 x rfl;obtain ⟨b',o',e',c1⟩:=h.2 1 y rfl;cases e';obtain ⟨b',o',e',c2⟩:=h.2 2 z rfl;cases e';rw [Nat.add_zero] at c0;clear h;have HX:=Zh (show Calls prog 80 #[.int .i64 0,.int .i64 x] w fun e w'=>e=.returned (.int .i64 x)∧w=w' from by have:=Qkx w 0 x Oo h0 Oo;rw [show (0:Int)+x=x by omega] at this;exact this);have HY:=Zh (Qkx w x y h0 h1 Oo);have HZ:=Zh (Qkx w (x+y) z Oo h2 h3);go_enter func49,ntmps49
 go_wp2_with fail
 go_loopw [3,8] (fun s i W=>W=w∧((s=.int .i64 0∧i=.int .i64 0)∨(s=.int .i64 x∧i=.int .i64 1)∨(s=.int .i64 (x+y)∧i=.int .i64 2)∨(s=.int .i64 (x+y+z)∧i=.int .i64 3))) (fun _ i _=>3-(intOf i).toNat)
 case atStart=>exact ⟨rfl,.inl ⟨rfl,rfl⟩⟩
 case round =>exact Kap
