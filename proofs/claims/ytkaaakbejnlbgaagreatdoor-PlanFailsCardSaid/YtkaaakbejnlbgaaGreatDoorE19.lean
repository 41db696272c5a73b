/- Qbl of the proof: MnT, AsC, AsN, RdM, MnO, NxR, MnS, HpG. -/
import Derived.Test.YtkaaakbejnlbgaaGreatDoorE18
set_option maxHeartbeats 2000000
set_option maxRecDepth 20000
namespace Go.Proofs.YtkaaakbejnlbgaaGreatDoor
open Go.RowKit Go.Proofs.Tryz
structure MI (N:Qak) (ls:Lz) (av:Iz) (s na:Nat) (dnf hp:Nat→Option Int) (dn:List Bool):Prop where
 dij:Dij (HSt N ls av) s dnf hp
 fl:∀ q,q<na→(dn.getD q false=true↔dnf q≠none)
 bd:∀ q e,hp q=some e→e≤MB+70379481595904
 ld:dn.length=na
structure MJ (N:Qak) (ls:Lz) (av:Iz) (s na p:Nat) (c:Int) (os cs:Iz) (i:Nat) (dnf hp:Nat→Option Int) (dn:List Bool):Prop where
 dij:Qlr (HSt N ls av) s dnf hp p c (GoneQ N os cs i)
 fl:∀ q,q<na→(dn.getD q false=true↔dnf q≠none)
 bd:∀ q e,hp q=some e→e≤MB+70379481595904
 ld:dn.length=na
 c0:0≤c∧c≤MB
section
variable {N:Qak} {ls:Lz} {av:Iz} {s na p:Nat} {c:Int} {os cs:Iz} {i:Nat} {dnf hp:Nat→Option Int} {dn:List Bool}
theorem MI.init:MI N ls av s na (fun _=>none) (Qem (fun _=>none) s 0) (List.replicate na false):=by have h:=Rdg.init (N:=N) (ls:=ls) (av:=av) (s:=s) (t:=s) (na:=na);exact ⟨h.dij,h.fl,h.bd,h.ld⟩
theorem MI.free (h:MI N ls av s na dnf hp dn)(hpn:p<na)(hp1:hp p=some c):dnf p=none∧dn.getD p false=false:=by
 have hno:dnf p=none:=by
  cases hd:dnf p with
  | none=>rfl
  | some e=>have:=h.dij.off p e hd;rw [hp1] at this;cases this
 refine ⟨hno,?_⟩
 cases hd:dn.getD p false with
 | false=>rfl
 | true=>exact absurd hno ((h.fl p hpn).1 hd)
theorem MI.take (hok:Qar N)(hP:Qbt N.vs.length ls) (hE:∀ (j:Nat) (l:Iz) (a b:Nat) (y z:Tri),ls[j]?=some l→N.ar[a]?=some y→N.ar[b]?=some z→Qad l y.1≠Qad l y.2.1→Qad l z.1=Qad l y.2.1→Qad l z.2.1≠Qad l y.2.1→∃ v,Qhc N (Qgd l (Qad l y.2.1)) a b v)
 (hs:∃ x,N.ar[s]?=some x) (hav:toV N s∈av) (h:MI N ls av s na dnf hp dn) (hpn:p<na) (hp1:hp p=some c) (hm:∀ q e,hp q=some e→c≤e) :
 MJ N ls av s na p c os cs 0 (fun q=>if q=p then some c else dnf q) (fun q=>if q=p then none else hp q) (dn.set p true)∧Rau N ls av p:=by
 obtain ⟨hno,hdn⟩:=h.free hpn hp1;have hr:=h.dij.hr p c hp1;have hpl:p<dn.length:=by rw [h.ld];exact hpn
 refine ⟨⟨(h.dij.take (HSt.pos hok) hp1 hm).conv (fun r d ⟨j,_,_,hj,_⟩=>by omega),fun q hq=>?_,fun q e hq=>?_,by rw [Yq];exact h.ld,hr.pos (HSt.pos hok),?_⟩,Qoo hok hP hav hr⟩;{by_cases e:q=p;{subst e;simp [hpl]};{(have e':¬p=q:=fun x=>e x.symm);exact Kcu}};{by_cases e1:q=p;{rw [if_pos e1] at hq;cases hq};{rw [if_neg e1] at hq;exact h.bd q e hq}};{obtain ⟨e,h1,h2⟩:=Rhg hok hP hE hs hav hr;have:=h.dij.least (HSt.pos hok) hp1 hm e h1;omega}
theorem MJ.skip (h:MJ N ls av s na p c os cs i dnf hp dn){b:Nat}{v:Int}{y:Tri} (hb:os[i]?=some (b:Int)) (hv:cs[i]?=some v) (hy:N.ar[b]?=some y) (hno:v=1152921504606846976∨y.2.2=1152921504606846976):MJ N ls av s na p c os cs (i+1) dnf hp dn :=
 ⟨h.dij.conv (fun r d ⟨j,v',y',hj,h1,h2,h3,h4,h5,h6⟩=>by
  by_cases e:j=i
  · subst e
    rw [hb] at h1;have e1:=Int.ofNat.inj (Yv h1);subst e1;rw [hv] at h2
    cases h2
    rw [hy] at h3
    cases h3
    rcases hno with g|g
    · exact absurd g h4
    · exact absurd g h5
  · exact ⟨j,v',y',Oo,h1,h2,h3,h4,h5,h6⟩),h.fl,h.bd,h.ld,h.c0⟩
theorem MJ.off (h:MJ N ls av s na p c os cs i dnf hp dn){b:Nat}{v:Int}{y:Tri} (hb:os[i]?=some (b:Int)) (hv:cs[i]?=some v) (hy:N.ar[b]?=some y) (hst:HSt N ls av p b (v+y.2.2)) (hbn:b<na) (hd:dn.getD b false=true):MJ N ls av s na p c os cs (i+1) dnf hp dn :=
 ⟨(h.dij.put hst (.inl ⟨(h.fl b hbn).1 hd,fun e he=>h.dij.dm b e he _ ((h.dij.dr p c h.dij.at_).step hst),rfl⟩)).conv (Qhw hb hv hy),h.fl,h.bd,h.ld,h.c0⟩
theorem MJ.put (hok:Qar N)(h:MJ N ls av s na p c os cs i dnf hp dn){b:Nat}{v:Int}{y:Tri} (hb:os[i]?=some (b:Int)) (hv:cs[i]?=some v) (hy:N.ar[b]?=some y) (hst:HSt N ls av p b (v+y.2.2)) (hbn:b<na) (hd:dn.getD b false=false) :
 MJ N ls av s na p c os cs (i+1) dnf (Qem hp b (c+(v+y.2.2))) dn:=by
 have hdn:dnf b=none:=by
  cases e:dnf b with
  | none=>rfl
  | some x =>have:=(h.fl b hbn).2 (by rw [e];exact fun h=>by cases h);rw [hd] at this;cases this
 obtain ⟨x,hx⟩:=Zx (c+(v+y.2.2));rw [←hx];have hne:∀ r,r≠b→Qem hp b x r=hp r:=fun r hr=>by unfold Qem;rw [if_neg hr]
 have hat0:hp b=none→Qem hp b x b=some x:=fun e=>by unfold Qem;rw [if_pos rfl,e]
 have hat1:∀ z,hp b=some z→Qem hp b x b=some (if z≤x then z else x):=fun z e=>by unfold Qem;rw [if_pos rfl,e]
 have hbd:∀ q e,Qem hp b x q=some e→e≤MB+70379481595904:=fun q e hq=>by{exact Kbj};refine ⟨(h.dij.put hst (.inr ⟨hdn,hne,?_⟩)).conv (Qhw hb hv hy),h.fl,hbd,h.ld,h.c0⟩
 cases e2:hp b with
 | none=>exact .inr ⟨fun e h=>(by cases h),by rw [hat0 e2,hx]⟩
 | some z =>by_cases e3:z≤x;{exact .inl ⟨z,rfl,Oo,by rw [hat1 z e2,if_pos e3]⟩};{exact .inr ⟨fun e h=>by cases h;omega,by rw [hat1 z e2,if_neg e3,hx]⟩}
theorem MJ.all (h:MJ N ls av s na p c os cs i dnf hp dn)(hn:NxtP N ls av p os cs)(hi:os.length≤i):MI N ls av s na dnf hp dn :=
 ⟨h.dij.done (fun q d hq=>by
  obtain ⟨k,v,y,h1,h2,h3,h4,h5,h6⟩:=hn.all q d hq;exact ⟨k,v,y,by have:=(Zs h1).1;omega,h1,h2,h3,h4,h5,h6⟩),h.fl,h.bd,h.ld⟩
end
def Qmi (tl:Iz)(dnf:Nat→Option Int):Iz:=tl.map (fun t=>(dnf t.toNat).getD 1152921504606846976)
theorem Qdx (tl:Iz)(dnf:Nat→Option Int):(Qmi tl dnf).length=tl.length:=by simp [Qmi]
theorem Qkh {tl:Iz}{dnf:Nat→Option Int}{i:Nat}{t:Int} (h:tl[i]?=some t):(Qmi tl dnf)[i]?=some ((dnf t.toNat).getD 1152921504606846976):=by unfold Qmi;rw [Yt,h];rfl
theorem Qvk (tl:Iz):Qmi tl (fun _=>none)=List.replicate tl.length 1152921504606846976:=by unfold Qmi;rw [List.eq_replicate_iff];refine ⟨Sm,fun b hb=>?_⟩;obtain ⟨x,_,rfl⟩:=List.mem_map.1 hb;rfl
def upD (dnf:Nat→Option Int)(k:Nat)(c:Int):Nat→Option Int:=fun q=>if q=k then some c else dnf q
def Qym (tl:Iz)(dnf:Nat→Option Int)(k:Nat)(c:Int)(i:Nat):Iz:=(Qmi tl (upD dnf k c)).take i ++(Qmi tl dnf).drop i
section
variable {tl:Iz} {dnf:Nat→Option Int} {k i:Nat} {c:Int}
theorem Rhs:Qym tl dnf k c 0=Qmi tl dnf:=by simp [Qym]
theorem rowT_all:Qym tl dnf k c tl.length=Qmi tl (upD dnf k c):=by unfold Qym;rw [Ye (by rw [Qdx];exact Zn _),List.drop_eq_nil_of_le (by rw [Qdx];exact Zn _),List.append_nil]
theorem rowT_len (hi:i≤tl.length):(Qym tl dnf k c i).length=tl.length:=by unfold Qym;rw [Yp,Yw,List.length_drop,Qdx,Qdx];omega
theorem Qkp {A B:Iz}{x:Int} (hx:A[i]?=some x) (hl:A.length=B.length):(A.take i ++B.drop i).set i x=A.take (i+1) ++B.drop (i+1):=by
 have hi:=(Zs hx).1;obtain ⟨y,hy⟩:∃ y,B[i]?=some y:=⟨_,Zg Oo⟩;have e:B.drop i=y::B.drop (i+1):=by{rw [List.drop_eq_getElem_cons Oo];rw [Zg Oo] at hy;cases hy;rfl};have hl2:(A.take i).length=i:=by rw [Yw];omega
 rw [e,List.set_append_right _ _ Oo,hl2,Yy,Yj,List.take_add_one,hx,List.append_assoc];rfl
theorem rowT_hit (ht:tl[i]?=some (k:Int)):(Qym tl dnf k c i).set i c=Qym tl dnf k c (i+1):=by unfold Qym;refine Qkp ?_ (by rw [Qdx,Qdx]);rw [Qkh ht];simp [upD]
theorem Rhr {t:Nat} (ht:tl[i]?=some (t:Int)) (hk:t≠k):Qym tl dnf k c i=Qym tl dnf k c (i+1):=by
 have hi:=(Zs ht).1;have e1:(Qmi tl (upD dnf k c))[i]?=(Qmi tl dnf)[i]?:=by{rw [Qkh ht,Qkh ht];simp [upD,hk]};unfold Qym;rw [List.take_add_one,e1,List.append_assoc];congr 1
 rw [Zg (by rw [Qdx];exact hi),List.drop_eq_getElem_cons (by rw [Qdx];exact hi)];rfl
theorem rowV_off (h:∀ i:Nat,tl[i]?≠some (k:Int)) (hn:∀ (i:Nat) (t:Int),tl[i]?=some t→∃ a:Nat,t=(a:Int)):Qmi tl (upD dnf k c)=Qmi tl dnf:=by
 unfold Qmi;refine List.map_congr_left (fun t ht=>?_);obtain ⟨i,hi⟩:=Yr ht;obtain ⟨a,rfl⟩:=hn i t hi;have:a≠k:=fun e=>h i (by rw [hi,e])
 simp [upD,this]
end
def Qel (ks:List Nat)(dnf:Nat→Option Int):Nat:=ks.countP (fun k=>(dnf k).isNone)
theorem Rfz (ks:List Nat):Qel ks (fun _=>none)=ks.length:=by unfold Qel;rw [List.countP_eq_length];exact fun _ _=>rfl
theorem Qoa:∀ {ks:List Nat}{dnf:Nat→Option Int}{k:Nat}{c:Int},k ∉ ks→Qel ks (upD dnf k c)=Qel ks dnf
 | [],_,_,_,_=>rfl
 | q::ks,dnf,k,c,h=>by
  have h1:q≠k:=fun e=>h (by rw [e];exact List.mem_cons_self)
  have h2:k ∉ ks:=fun e=>h (List.mem_cons_of_mem _ e)
  have ih:=Qoa (ks:=ks) (dnf:=dnf) (k:=k) (c:=c) h2;unfold Qel at ih ⊢;rw [List.countP_cons,List.countP_cons,ih];simp [upD,h1]
theorem Qzx:∀ {ks:List Nat}{dnf:Nat→Option Int}{k:Nat}{c:Int},ks.Nodup→k∈ks→dnf k=none→Qel ks dnf=Qel ks (upD dnf k c)+1
 | [],_,_,_,_,h,_=>by cases h
 | q::ks,dnf,k,c,hn,h,hd=>by obtain ⟨g1,g2⟩:=List.nodup_cons.1 hn;by_cases e:q=k;{subst e;have ih:=Qoa (ks:=ks) (dnf:=dnf) (k:=q) (c:=c) g1;unfold Qel at ih ⊢;rw [List.countP_cons,List.countP_cons,ih];simp [upD,hd]};{have ih:=Qzx (ks:=ks) (dnf:=dnf) (k:=k) (c:=c) g2 ((List.mem_cons.1 h).resolve_left (fun x=>e x.symm)) hd;unfold Qel at ih ⊢;rw [List.countP_cons,List.countP_cons,ih];simp [upD,e];omega}
theorem Rcd {ks:List Nat}{dnf:Nat→Option Int}(h:Qel ks dnf=0)(k:Nat)(hk:k∈ks):dnf k≠none:=by unfold Qel at h;rw [List.countP_eq_zero] at h;intro e;exact h k hk (by rw [e];rfl)
def RowQ (N:Qak) (ls:Lz) (av:Iz) (s:Nat) (tl row:Iz):Prop :=
 row.length=tl.length∧∀ (i t:Nat),tl[i]?=some (t:Int)→∃ v,row[i]?=some v∧((wV N s=1152921504606846976∧v=1152921504606846976)∨(wV N s≠1152921504606846976∧Lst (Rch (HSt N ls av) s t) v))
theorem RowQ.none {N:Qak} {ls:Lz} {av:Iz} {s:Nat} (tl:Iz) (h:wV N s=1152921504606846976):RowQ N ls av s tl (Qmi tl (fun _=>none)) :=
 ⟨Qdx _ _,fun _ _ ht=>⟨_,Qkh ht,.inl ⟨h,rfl⟩⟩⟩
theorem MI.row {N:Qak} {ls:Lz} {av:Iz} {s na:Nat} {dnf hp:Nat→Option Int} {dn:List Bool} {tl:Iz} (hok:Qar N) (h:MI N ls av s na dnf hp dn) (hw:wV N s≠1152921504606846976)
 (he:(∀ q,hp q=Option.none)∨∀ (i t:Nat),tl[i]?=some (t:Int)→dnf t≠Option.none):RowQ N ls av s tl (Qmi tl dnf) :=
 ⟨Qdx _ _,fun i t ht=>⟨_,Qkh ht,.inr ⟨hw,by
  rw [Yl]
  cases hd:dnf t with
  | some c=>exact .inl ⟨h.dij.dr t c hd,h.dij.dm t c hd⟩
  | none =>
   rcases he with he|he
   · exact h.dij.miss (HSt.pos hok) he hd
   · exact absurd hd (he i t ht)⟩⟩⟩
attribute [local go_sem ↓] Go.wp_at_zero Go.wp_at_succ
theorem Qww (w:World)(x:Int)(h0:1152921504606846976<x) :
 Calls prog 135 #[.int .i64 x] w fun e w'=>e=.returned (.int .i64 1152921504606846976)∧w=w':=by
 have e1:decide (x<0)=false:=by simp;omega
 have e2:decide (1152921504606846976<x)=true:=by simp;omega
 go_enter func135,ntmps135
 exact Kdp
theorem Qja (w:World)(x y:Int)(h0:0≤x∧x≤1152921504606846976)(h1:0≤y∧y≤1152921504606846976) :
 Calls prog 80 #[.int .i64 x,.int .i64 y] w fun e w'=>e=.returned (.int .i64 (Qdg x y))∧w=w':=by
 have HX:=Zh (Qcl w x h0.1 h0.2);have HY:=Zh (Qcl w y h1.1 h1.2)
 have HZ:=Zh (show Calls prog 135 #[.int .i64 (x+y)] w fun e w'=>e=.returned (.int .i64 (Qdg x y))∧w=w' by
  unfold Qdg
  split
  · exact Qww w (x+y) Oo
  · exact Qcl w (x+y) Oo Oo)
 have e1:IntKind.i64.wrap (x+y)=x+y:=IntWalk.i64_in _ Oo;go_enter func80,ntmps80
 exact Kat
theorem Rdr {x:Int}(h:x≤1152921504606846976):Qdg 0 x=x:=by unfold Qdg;split <;> omega
theorem Qjb (A:Oz)(c:Nat)(w:World)(x y z:Int) (h:RdI w A 3 [x,y,z]) (h0:0≤x∧x≤1152921504606846976) (h1:0≤y∧y≤1152921504606846976) (h2:0≤z∧z≤1152921504606846976) :
 Calls prog 49 #[.slice A 3 c] w fun e w'=>e=.returned (.int .i64 (Qdg (Qdg x y) z))∧w=w':=by
 obtain ⟨b,o,rfl,c0⟩:=h.2 0 x rfl;obtain ⟨b',o',e',c1⟩:=h.2 1 y rfl;cases e';obtain ⟨b',o',e',c2⟩:=h.2 2 z rfl;cases e';rw [Nat.add_zero] at c0;clear h;have HX:=Zh (show Calls prog 80 #[.int .i64 0,.int .i64 x] w fun e w'=>e=.returned (.int .i64 x)∧w=w' from by have:=Qja w 0 x Oo h0;rw [Rdr h0.2] at this;exact this);have HY:=Zh (Qja w x y h0 h1);have gb:=Qet h0.1 h1.1;have HZ:=Zh (Qja w (Qdg x y) z ⟨gb.1,gb.2.1⟩ h2);obtain ⟨u,hu⟩:=Zx (Qdg x y);rw [←hu] at HY HZ ⊢;obtain ⟨v,hv⟩:=Zx (Qdg u z);rw [←hv] at HZ ⊢;clear hu hv gb;go_enter func49,ntmps49
 go_wp2_with fail
 go_loopw [3,8] (fun s i W=>W=w∧((s=.int .i64 0∧i=.int .i64 0)∨(s=.int .i64 x∧i=.int .i64 1)∨(s=.int .i64 u∧i=.int .i64 2)∨(s=.int .i64 v∧i=.int .i64 3))) (fun _ i _=>3-(intOf i).toNat)
 case atStart=>exact ⟨rfl,.inl ⟨rfl,rfl⟩⟩
 case round =>exact Kap
open Go.Maps Go.WideMaps
theorem MpQ.at_ {W W':World}{b n:Nat}{f:Nat→Nat→Option Value}(h:MpQ W b n f) (e:W'.heap[b]?=W.heap[b]?):MpQ W' b n f:=by exact Kcp
theorem Qyc {w:World}{o:Oper}{a:Act}{K:Act→World→Prop}{Q:Exit→Act→World→Prop}{b n:Nat}{f:Nat→Nat→Option Value}(m x v:Operand)(hop:o.op=Op.mapUpdate 223 m x v)(i k:Nat)(u:Value) (hm:a.eval m=.map (some b)) (h:MpQ w b n f) (hn:n≤1000000000000000000) (hx:a.eval x=.agg #[.int .i64 i,.int .i64 k]) (hv:a.eval v=u) (hi:i≤1000000000000) (hk:k≤1000000000000)
 (hK:∀ w',MpQ w' b (n+1) (fun p q=>if p=i∧q=k then some u else f p q)→w.grownBy w' (some b)→K (a.put o.dst undef) w'):Oper.wp prog o a w K Q:=by
 obtain ⟨D,h1,h2,h3⟩:=h;obtain ⟨w',hrun,g1,g2⟩:=h1.update Qso underlying223 (by unfold maxLen;omega) (Qzv hi hk) (show RV u=some (.held u,[]) from rfl)
 have hf:=hK w' ⟨_,g1,h2.put _ _,fun p q hp hq=>by
  have hkl:WideAt.IsKeyLit (kq i k):=by simp [WideAt.IsKeyLit,kq]
  by_cases e:p=i∧q=k
  · obtain ⟨rfl,rfl⟩:=e
    simp only [and_self,if_pos];exact ⟨has_put_same h2 hkl _,fun v e z=>by cases e;exact atKey_put_same h2 hkl _ _⟩
  · simp only [if_neg e]
    exact ⟨(has_put_other (kq_ne hp hq hi hk e) _).trans (h3 p q hp hq).1,fun v e2 z=>(atKey_put_other (kq_ne hp hq hi hk e) _ _).trans ((h3 p q hp hq).2 v e2 z)⟩⟩ g2
 unfold Oper.wp;simp [execOp,hop,hm,hx,hv,hrun,Result.andThen];exact hf
def MpC (V:World)(G:Nat→Prop)(ar:List Tri) (ls:Lz) (f:Nat→Nat→Option Value):Prop :=
 ∀ i k u,f i k=some u→∃ j l x A1 n1 c1 A2 n2 c2,i=j+1∧ls[j]?=some l∧(Qaf ar l)[k]?=some x∧u=.agg #[.slice A1 n1 c1,.slice A2 n2 c2]∧RdI (msk V G) A1 n1 x.1∧RdI (msk V G) A2 n2 x.2
theorem MpC.le {V V':World}{G G':Nat→Prop}{ar:List Tri} {ls:Lz} {f:Nat→Nat→Option Value} (h:MpC V G ar ls f) (hl:Le (msk V G) (msk V' G')):MpC V' G' ar ls f:=fun i k u hu=>by obtain ⟨j,l,x,A1,n1,c1,A2,n2,c2,h1,h2,h3,h4,h5,h6⟩:=h i k u hu;exact ⟨j,l,x,A1,n1,c1,A2,n2,c2,h1,h2,h3,h4,h5.le hl,h6.le hl⟩
theorem MpC.put {V:World}{G:Nat→Prop}{ar:List Tri} {ls:Lz} {f:Nat→Nat→Option Value} (h:MpC V G ar ls f) {j k:Nat} {l:Iz} {x:Qap} {A1 A2:Oz} {n1 n2 c1 c2:Nat} (hl:ls[j]?=some l) (hx:(Qaf ar l)[k]?=some x) (h1:RdI (msk V G) A1 n1 x.1) (h2:RdI (msk V G) A2 n2 x.2) :
 MpC V G ar ls (fun p q=>if p=j+1∧q=k then some (.agg #[.slice A1 n1 c1,.slice A2 n2 c2]) else f p q):=fun p q u hu=>by simp only at hu;by_cases e:p=j+1∧q=k;{rw [if_pos e] at hu;cases hu;obtain ⟨rfl,rfl⟩:=e;exact ⟨j,l,x,A1,n1,c1,A2,n2,c2,rfl,hl,hx,rfl,h1,h2⟩};{rw [if_neg e] at hu;exact h p q u hu}
structure Nxw (mb:Nat) (w w':World):Prop where
 kept:Qaz (fun b=>b≠mb) w w'
 size:w.heap.size≤w'.heap.size
 bel:∀ B,B≤mb→Below B w w'
theorem Nxw.below {mb:Nat}{w w':World}(h:Bw w w')(hm:mb<w.heap.size):Nxw mb w w':=⟨Qaz.below h,h.size,fun B hB=>h.mono Oo⟩
theorem Nxw.grown {mb:Nat}{w w':World} (h:w.grownBy w' (some mb)) (hm:mb<w.heap.size):Nxw mb w w':=⟨Qaz.grown h (fun _ hb e=>hb (by injection e with e;exact e.symm)),h.size,fun B hB=>⟨h.os,h.tape,h.output,h.size,fun k hk=>h.block k Oo (fun e2=>by injection e2;omega)⟩⟩
theorem Nxw.trans {mb:Nat}{a b c:World}(h:Nxw mb a b)(k:Nxw mb b c):Nxw mb a c:=⟨h.kept.trans k.kept h.size,Yx h.size k.size,fun B hB=>(h.bel B hB).trans (k.bel B hB)⟩
def G2 (G:Nat→Prop)(w w':World):Nat→Prop:=fun b=>G b∨(w.heap.size≤b∧b<w'.heap.size)
theorem G2.le {G:Nat→Prop}{mb:Nat}{w w':World}(h:Nxw mb w w')(hG:¬G mb):Le (msk w G) (msk w' (G2 G w w')) :=
 (Qaz.msk (h.kept.mono (fun _ hb e=>hG (e▸hb)))).trans (Qbj (fun _ hb=>.inl hb))
theorem run_cutG {P:Program}(t e:TypeId) (ht:P.underlying t=some (.slice e)) (he:P.elem t=e) (hs:(P.info? e).map (·.size)=some 1) (A:Oz) (n c lo r:Nat) (hlo:lo+r≤c) (h0:0<r) (w:World) :
 (Instr.slice t (.slice A n c) (some (.int .i64 (lo:Int))) (some (.int .i64 ((lo:Int)+r))) none).run P w=.ok (.slice (A.map (·.add lo)) r (c-lo)) w:=by
 rw [run_slice_lh (P:=P) w t A n c (by rw [he];exact ht) .i64 .i64 (lo:Int) ((lo:Int)+r) Oo Oo Oo,he];have e1:((lo:Int)).toNat=lo:=Oo
 have e2:((lo:Int)+r).toNat=lo+r:=Oo
 have e3:¬c=lo:=Oo
 rw [e1,e2]
 cases hi:P.info? e with
 | none=>rw [hi] at hs;cases hs
 | some i =>rw [hi] at hs;simp at hs;simp [sizeOf,typeInfo,hi,Result.andThen,hs,sliced,e3]
theorem Raj (A:Oz)(n c lo r:Nat)(hlo:lo+r≤c)(h0:0<r)(W:World):(Instr.slice 37 (.slice A n c) (some (.int .i64 (lo:Int))) (some (.int .i64 ((lo:Int)+r))) none).run prog W=.ok (.slice (A.map (·.add lo)) r (c-lo)) W :=
 run_cutG 37 2 underlying37 Kf Kf A n c lo r hlo h0 W
theorem RdI.sub {w:World}{A:Oz}{n:Nat}{l:Iz}(h:RdI w A n l)(lo r:Nat)(hr:lo+r≤n):RdI w (A.map (·.add lo)) r ((l.drop lo).take r):=by
 refine ⟨by rw [Yw,List.length_drop,h.1];omega,fun i x hi=>?_⟩;have hir:i<r:=by have:=(Zs hi).1;rw [Yw] at this;omega
 rw [List.getElem?_take_of_lt hir,List.getElem?_drop] at hi;obtain ⟨b,o,rfl,hc⟩:=h.2 _ x hi;refine ⟨b,o+lo,?_,by rw [Nat.add_assoc];exact hc⟩;simp only [Option.map_some,Addr.add];split;{rename_i h0;rw [show lo=0 by omega];rfl};{rfl}
theorem set_take {cs:Iz}{i n:Nat}{z:Int} (h:cs[i]?=some z) (hn:i<n) (hl:cs.length=n):(cs.take i ++List.replicate (n-i) 0).set i z=cs.take (i+1) ++List.replicate (n-(i+1)) 0:=by
 have hl2:(cs.take i).length=i:=by rw [Yw];omega
 rw [List.set_append_right _ _ (by rw [hl2];exact Zn _),hl2,Yy,Yf Oo,(Zs h).2];obtain ⟨m,hm⟩:∃ m,n-i=m+1:=⟨n-i-1,Oo⟩;rw [hm,show n-(i+1)=m by omega];simp [List.replicate_succ]
end Go.Proofs.YtkaaakbejnlbgaaGreatDoor
namespace Go.Proofs.YtkaaakbejnlbgaaGreatDoor
open Go.RowKit Go.Proofs.Tryz
attribute [local go_sem ↓] Go.wp_at_zero Go.wp_at_succ
theorem Own.rdM {w:World}{B n c:Nat}{e:TypeId}{A:Oz}{l:Iz}{G:Nat→Prop} (h:Own w B e 1 A n c (Qae l)) (hG:∀ b,B≤b→b<w.heap.size→G b):RdI (msk w G) A n l:=by have hr:=h.rds.rdI;refine ⟨hr.1,fun i x hi=>?_⟩;obtain ⟨b,o,rfl,hc⟩:=hr.2 i x hi;have:=h.lt b rfl;exact ⟨b,o,rfl,Qat.2 ⟨hG b this.1 this.2,hc⟩⟩
theorem Blk.rdM {w:World}{g:Nat}{t:TypeId}{l:Iz}{G:Nat→Prop} (h:Blk w g t (Qbr l)) (hG:G g):RdI (msk w G) (some ⟨g,0,none⟩) l.length l :=
 ⟨rfl,fun i x hi=>⟨g,0,rfl,by rw [Yz];exact Qat.2 ⟨hG,h.cellI hi⟩⟩⟩
theorem Rgm (w:World)(qb g o:Nat)(N:Qak) (ls:Lz) (TA:Oz) (nt ct:Nat) (tl:Iz) (CA:Oz) (NC cC:Nat) (cl:Iz) (Q:Oz) (L cq mb a:Nat) (x:Tri) (h:MR w qb g o N ls TA nt ct tl CA NC cC cl Q L cq mb) (hok:Qar N) (hx:N.ar[a]?=some x) :
 Calls prog 133 #[.pointer (some ⟨qb,0,none⟩),.int .i64 0,.int .i64 a] w fun e w'=>∃ (O C:Oz) (nO cO cC':Nat),e=.returned (.tuple #[.slice O nO cO,.slice C nO cC']) ∧
  RdI (msk w' (fun b=>w.heap.size≤b∧b<w'.heap.size)) O nO (idx (·.1) N.ar x.2.1)∧RdI (msk w' (fun b=>w.heap.size≤b∧b<w'.heap.size)) C nO ((idx (·.1) N.ar x.2.1).map (fun b=>Qal N a b.toNat))∧nO≤16384∧Bw w w':=by
 obtain ⟨u,v,e1,e2,hu,hv⟩:=Qjp hok hx;obtain ⟨os,hos⟩:=Zx (idx (·.1) N.ar x.2.1);obtain ⟨no,hno⟩:=Zx os.length;have hnl:no≤16384:=by{rw [hno,hos];have:=Qhi (·.1) N.ar N.ar.length x.2.1;rw [List.take_length] at this;have:=hok.la;omega};have HTO:=Zh (Qjx g a N x w h.gr hx);have HOU:=Zh (show Calls prog 169 #[.pointer (some ⟨g,0,none⟩),.int .i64 x.2.1] w fun e w'=>∃ A n c,e=.returned (.slice A n c)∧Own w' w.heap.size 3 1 A n c (Qae os)∧Bw w w' by rw [hos,e2];exact Qrr g v N w h.gr hv);have HTN:=Zh (fun V (hV:Bw w V) (b:Nat) (y:Tri) (hy:N.ar[b]?=some y)=>Qrt g a b N x y V (h.gr.below hV) hx hy)
 have HCL:=Zh (show ∀ i b,os[i]?=some b→∃ (n:Nat) (y:Tri),b=(n:Int)∧N.ar[n]?=some y from fun i b hb=>by
  rw [hos] at hb;obtain ⟨n,y,rfl,hy,_⟩:=Qfn.1 (Zm hb);exact ⟨n,y,rfl,hy⟩)
 rw [←hos];obtain ⟨cs,hcs⟩:=Zx (os.map (fun b=>Qal N a b.toNat));rw [←hcs];have HCS:=Zh (show ∀ i n,os[i]?=some ((n:Nat):Int)→cs[i]?=some (Qal N a n) from fun i n hb=>by rw [hcs,Yt,hb];simp);have HLC:=Zh (show cs.length=no by rw [hcs,List.length_map,hno]);have HNO:=Zh hno;have HQ:=Zh (show ∀ V,Bw w V→V.cell? ⟨qb,0,none⟩=some (.pointer (some ⟨g,0,none⟩)) from fun V hV=>(h.below hV).q0);have q0:=h.q0;have hmk:=Qde no Oo;clear h hok hx hos hno hcs e1 e2 hu hv;go_enter func133,ntmps133
 go_wp2_with fail
 with_reducible refine HTO.o.mono ?_
 rintro r w' ⟨rfl,rfl⟩;go_wp2_with fail
 with_reducible refine HOU.o.mono ?_
 rintro r w1 ⟨O,nO,cO,rfl,hO,hb1⟩;obtain rfl:no=nO:=by rw [HNO.o];exact hO.rds.rdI.1
 have HO:=Zh hO;have HB1:=Zh hb1;clear hO hb1 q0;go_wp2_with fail
 (refine Qai ?_;intro w2 hw2);have hb2:Bw w1 w2:=by rw [hw2];exact Qag
 have hC2:Blk w2 w1.heap.size 2 (Qbr (cs.take 0 ++List.replicate (no-0) 0)):=by rw [hw2,List.take_zero,List.nil_append,Nat.sub_zero,←Qbx];exact Qbi
 have HC2:=Zh hC2;have HB2:=Zh hb2;clear hw2 hC2 hb2;go_loopw [37] (fun uk V=>∃ kk:Nat,kk≤no∧uk=.int .i64 kk∧Bw w1 V∧Blk V w1.heap.size 2 (Qbr (cs.take kk ++List.replicate (no-kk) 0))) (fun uk _=>no-(intOf uk).toNat)
 case atStart=>exact ⟨0,Nat.zero_le _,rfl,HB2.o,HC2.o⟩
 case round =>
  clear HC2 HB2;obtain ⟨kk,hkk,rfl,hb,hC⟩:=hrel;have HB:=Zh hb;have HC:=Zh hC;have hlt1:=hC.lt;by_cases hlt:kk<no
  rotate_left;{(obtain rfl:kk=no:=Oo);(have j2:¬((kk:Int)<kk):=Oo);clear hb hC;(go_wp2_with fail);refine bodyPost_ret (v:=.tuple #[.slice O kk cO,.slice (some ⟨w1.heap.size,0,none⟩) kk kk]) (by simp [results,results133,go_sem]) rfl ?_;refine ⟨O,_,kk,⟨cO,kk,rfl⟩,(HO.o.below HB.o).rdM (fun _ h1 h2=>⟨h1,h2⟩),?_,hnl,Zb HB1.o HB.o⟩;have hC:=HC.o;rw [Yy,List.replicate_zero,List.append_nil,Ye (by rw [HLC.o];exact Zn _)] at hC;have:=hC.rdM (G:=fun b=>w.heap.size≤b∧b<wr.heap.size) ⟨HB1.o.size,hlt1⟩;rwa [HLC.o] at this}
  · (have j2:(kk:Int)<no:=Oo);(have j3:0≤(kk:Int):=Oo);obtain ⟨ob,oo,z,rfl,hz,c1⟩:=(HO.o.below hb).rds.rdI.at_ hlt;obtain ⟨b,y,rfl,hy⟩:=HCL.o kk z hz;have HY:=Zh hy;have HZ:=Zh (HCS.o kk b hz);have q0:=HQ.o wr (Zb HB1.o hb);have HT:=Zh (HTN.o wr (Zb HB1.o hb) b y hy);clear hb hC hz hy;(go_wp2_with fail);(with_reducible refine HT.o.mono ?_);rintro r w3 ⟨rfl,hb3⟩;have HB3:=Zh (Zb HB.o hb3);have HC3:=Zh (HC.o.below hb3 hlt1);have hfr:=HC3.o.frozen kk;have HC4:=Zh (HC3.o.setI (set_take HZ.o hlt HLC.o));have HB4:=Zh (Zi (o:=kk) (u:=.int .i64 (Qal N a b)) HB3.o (Zn _))
    have d0:w3.cell? ⟨w1.heap.size,kk,none⟩=some (.int .i64 0):=HC3.o.cellI (by
     rw [Yb (by rw [Yw,HLC.o];omega),Yw,HLC.o,Nat.min_eq_left Oo,Yy,List.getElem?_replicate,if_pos Oo])
    clear hb3 c1 q0;(go_wp2_with fail);go_roundw;(case rel=>exact ⟨kk+1,Oo,by go_num,HB4.o,HC4.o⟩);case measure=>simp [intOf];omega
def NxtR (w:World)(G:Nat→Prop)(mb n:Nat)(N:Qak) (ls:Lz) (av:Iz) (a:Nat) (r:Ending) (w':World):Prop :=
 ∃ (O C:Oz) (nO cO cC n':Nat) (os cs:Iz) (f':Nat→Nat→Option Value),r=.returned (.tuple #[.slice O nO cO,.slice C nO cC])∧NxtP N ls av a os cs∧RdI (msk w' (G2 G w w')) O nO os∧RdI (msk w' (G2 G w w')) C nO cs ∧
  MpQ w' mb n' f'∧n'≤n+1∧MpC w' (G2 G w w') N.ar ls f'∧Nxw mb w w'∧nO≤16384
theorem G2.more {G:Nat→Prop}{w V V':World}(h:Bw V V'):Le (msk V (G2 G w V)) (msk V' (G2 G w V')) :=
 (Qaz.msk (Qaz.below h)).trans (Qbj (fun _ hb=>hb.imp id (fun h1=>⟨h1.1,Yu h1.2 h.size⟩)))
theorem Rgn (w:World)(qb g o:Nat)(N:Qak) (ls:Lz) (TA:Oz) (nt ct:Nat) (tl:Iz) (CA:Oz) (NC cC:Nat) (cl:Iz) (Q:Oz) (L cq mb a J j:Nat) (y:Tri) (av:Iz) (G:Nat→Prop) (n:Nat) (f:Nat→Nat→Option Value) (h:MR (msk w G) qb g o N ls TA nt ct tl CA NC cC cl Q L cq mb) (hGm:¬G mb) 
 (hm:MpQ w mb n f) (hn:n≤2000000) (hmc:MpC w G N.ar ls f) (hok:Qar N) (hP:Qbt N.vs.length ls) (hA:Qes N ls cl) (hcc:NC≤cC∧cC≤9223372036854775807) (hSm:Qcy (Qah N.ar ls)≤1000000000) (hy:N.ar[a]?=some y) (hg:Rau N ls av a) (hJ:Qlw ls (toV N a) av=J) (hj:J=j+1) :
 Calls prog 133 #[.pointer (some ⟨qb,0,none⟩),.int .i64 J,.int .i64 a] w (NxtR w G mb n N ls av a):=by
 obtain ⟨l,hl,_⟩:=Qfc (hJ.trans hj);have hlv:=hP.lvl l (Zm hl);have hgd:=hg j l y (hJ.trans hj) hl hy;obtain ⟨_,v,_,e2,_,hv⟩:=Qjp hok hy;obtain ⟨c,hc,hcm,hcv⟩:=Qev hlv hv;rw [←e2] at hc;obtain ⟨x,hx⟩:∃ x,(Qaf N.ar l)[c]?=some x:=⟨_,Zg (by rw [Qau];exact hcm)⟩;obtain ⟨i,hi⟩:=Yr ((Qef hx).2 ⟨y,hy,by rw [←hc];exact hgd,hc⟩);have HNX:=Zh (Rhb hok hA (hJ.trans hj) hl hy hgd hc hx hi);have hL6:=hP.l6;have hlen:=hlv.len;have hvs:=hok.lv;have hil:=(Zs hi).1;have hll:=(Zs hl).1;have HQ:=Zh (show ∀ V,Nxw mb w V→MR V qb g o N ls TA nt ct tl CA NC cC cl Q L cq mb from fun V hV=>h.le ((G2.le hV hGm).trans (Qan _ _)));have HG2:=Zh (show ∀ V,Nxw mb w V→Le (msk w G) (msk V (G2 G w V)) from fun V hV=>G2.le hV hGm);have HMQ:=Zh hm;have HMC:=Zh hmc;have HCL:=Zh h.costs;have HCC:=Zh hcc;have HTO:=Zh (Qjx g a N y w (h.gr.le (Qan _ _)) hy);rw [e2] at HTO;have HGT:=Zh (fun V (hV:Nxw mb w V)=>Qoi o j c N.ar ls l x V (h.ov.le ((G2.le hV hGm).trans (Qan _ _))) hl Oo hx (by have:=hok.la;omega));have HFR:=Zh (fun V (hV:Nxw mb w V)=>Rfc o j c i N ls l x V (h.ov.le ((G2.le hV hGm).trans (Qan _ _))) hl hx hil Oo hSm);have HSO:=Zh (Qhg hx);have HPI:=Zh (Qfy HSO.o hi);have hgl:=Qcd hx;have hla:=hok.la;have HGL:=Zh (show x.1.length≤16384∧x.2.length≤16384 by omega);have hq:=(h.le (Qan _ _));have q0:=hq.q0;have q5:=hq.q5;have q6:=hq.q6;obtain ⟨qb2,qo2,A0,n0,c0,l0,rfl,hl0,k0,k1,_,_⟩:=hq.part.at_ (i:=j) (by have:=hq.part.1;omega);rw [hl] at hl0;cases hl0;obtain ⟨kb,ko,z,rfl,hz,k2⟩:=k1.at_ (i:=v) (by rw [←k1.1];omega);rw [hcv] at hz;cases hz;have hLL:L=ls.length:=hq.part.1.symm;have hn0:n0=N.vs.length:=by rw [←k1.1];exact hlen
 have m1:(J:Int)-1=j:=Oo
 have m2:0≤(j:Int):=Oo
 have m3:(j:Int)<L:=Oo
 have m4:0≤(v:Int):=Oo
 have m5:(v:Int)<n0:=Oo
 have m6:((J:Int) == 0)=false:=by simp;omega
 have m7:(j:Int)+1=J:=Oo
 simp only [m7] at HGT HFR;have wl:IntKind.i64.wrap (j:Int)=(j:Int):=IntWalk.i64_in _ Oo;have HX0:=Zh (show Nxw mb w w from Nxw.below (Zr _ _) hm.lt);have HJ:=Zh hj;have HJL:=Zh (show J≤1000000000000∧c≤1000000000000 by have:=hlv.hi _ (Zm hcv);omega);have HL:=Zh hl;have HX:=Zh hx;have HI:=Zh hi;clear h hGm hmc hok hP hA hSm hy hg hJ hl hlv hgd hc hcm hcv hx hi hq k1 e2 hgl hla hlen hvs hj hcc hm hLL hn0 m7 hil hll hL6;go_enter func133,ntmps133
 go_wp2_with fail
 with_reducible refine HTO.o.mono ?_
 rintro r w' ⟨rfl,rfl⟩
 cases hf:f J c with
 | some u =>
  obtain ⟨j',l',x',A1,n1,c1,A2,n2,c2,ej,hl',hx',rfl,hr1,hr2⟩:=HMC.o J c u hf;obtain rfl:j=j':=by have:=HJ.o;omega
  rw [HL.o] at hl';cases hl';rw [HX.o] at hx';cases hx';have HR1:=Zh hr1;have HR2:=Zh hr2;clear ej hr1 hr2;go_wp2_with (at_lookup;with_reducible refine Ril rfl _ _ rfl J c rfl HMQ.o rfl HJL.o.1 HJL.o.2 ?_)
  (refine Qab ?_;intro w6 hw6);have hb6:Bw w w6:=by rw [hw6];exact Qag
  have HC6:=Zh (show Blk w6 w.heap.size 215 #[.slice A1 n1 c1,.slice A2 n2 c2] by rw [hw6];exact Blk.new _ _ _);have HX6:=Zh (Nxw.below hb6 HMQ.o.lt);have HMV:=Zh (HMQ.o.below hb6);have HNN:=Zh (show n≤n+1 by omega);have HMCV:=Zh (HMC.o.le (HG2.o w6 HX6.o));have HR1:=Zh (HR1.o.le (HG2.o w6 HX6.o));have HR2:=Zh (HR2.o.le (HG2.o w6 HX6.o));clear hw6 hb6 hf;have hq6:=HQ.o w6 HX6.o;have q1:=hq6.q1;have z0:w6.cell? ⟨w.heap.size,0,none⟩=some (.slice A1 n1 c1):=Zq HC6.o;have HPL:=Zh (Qjw A1 n1 c1 x.1 (a:Int) w6 (HR1.o.le (Qan _ _)) HSO.o (by rw [←HR1.o.1];have:=HGL.o.1;omega));rw [HPI.o] at HPL;clear hq6;with_reducible refine HPL.o.mono ?_
  rintro r w7 ⟨rfl,hb7⟩;have HX7:=Zh (HX6.o.trans (Nxw.below hb7 HMV.o.lt));have HB7:=Zh hb7;have q1:=(HQ.o w7 HX7.o).q1;have HAT:=Zh (HFR.o w7 HX7.o);have w0:¬((i:Int)<0):=Oo
  clear z0 hb7;by_cases hn0:x.2.length=0;{(have hfr:Que (Qah N.ar ls) (Qaf N.ar l) j c x i = -1:=by unfold Que;rw [if_pos hn0]);rw [hfr] at HAT;have HN0:=Zh hn0;clear hfr hn0;(go_wp2_with fail);(with_reducible refine HAT.o.mono ?_);rintro r w8 ⟨rfl,hb8⟩;have HB8:=Zh (Zb HB7.o hb8);clear hb8 q1;(go_wp2_with fail);refine wp_region_held_drew (S:=fun V=>V=w8.drew) Kf rfl (fun _=>?_);refine tzd 0 106 ?_;refine tzb 4 110 ?_;refine tz 6 112 ?_;refine tw 7 113 ?_;refine tw 8 114 ?_;refine tw 9 115 ?_;refine tw 10 116 ?_;refine tw 11 117 ?_;refine tw 12 118 ?_;refine tw 13 119 ?_;refine tw 14 120 ?_;refine tw 15 121 ?_;refine tw 16 122 ?_;refine tw 17 123 ?_;refine tz 18 124 ?_;refine Zd ?_;obtain ⟨v9,hv9⟩:∃ V,V=w8.drew:=⟨_,rfl⟩;rw [←hv9];have HB9:=Zh (show Bw w6 v9 by rw [hv9];exact HB8.o.drew);clear hv9;(go_wp2_with fail);refine bodyPost_ret (v:=.tuple #[.slice none 0 0,.slice none 0 0]) (by simp [results,results133,go_sem]) rfl ?_;have hx2:x.2=[]:=List.eq_nil_of_length_eq_zero HN0.o;have hnx:=HNX.o;rw [hx2] at hnx;exact ⟨none,none,0,0,0,n,[],_,f,rfl,hnx,⟨rfl,fun i x h=>by simp at h⟩,⟨Sm,fun i x h=>by simp at h⟩,HMV.o.below HB9.o,HNN.o,HMCV.o.le (G2.more HB9.o),HX6.o.trans (Nxw.below HB9.o HMV.o.lt),Oo⟩};{obtain ⟨e0,he0⟩:=Zx (Qim (Qah N.ar ls) (Qaf N.ar l) j c x i 0);(have hfr:Que (Qah N.ar ls) (Qaf N.ar l) j c x i=(e0:Int):=by unfold Que;rw [if_neg hn0,he0]);(rw [hfr] at HAT;have HNX2:=Zh HNX.o;rw [←he0] at HNX2;have hn2:n2=x.2.length:=HR2.o.1.symm;have hlen2:=HNX2.o.len;rw [Yw,List.length_drop,HCL.o.1] at hlen2;have hbd:e0+n2≤NC∧0<n2∧n2≤16384:=by have:=HGL.o;omega);(have hcx:=HCC.o;have HCT:=Zh (Raj CA NC cC e0 n2 Oo hbd.2.1);have HBD:=Zh hbd;have w1:¬((e0:Int)<0):=Oo);(have w2:¬((NC:Int)<e0+n2):=Oo);(have w3:decide ((i:Int)<0)=false:=Sm);(have w4:decide ((e0:Int)<0)=false:=Sm);(have w5:decide ((NC:Int)<e0+n2)=false:=by simp;omega);have HWR:=Zh (show IntKind.i64.wrap ((e0:Int)+n2)=(e0:Int)+(n2:Int) from IntWalk.i64_in _ Oo);have hwr:=HWR.o;have hct:=HCT.o;have HN2:=Zh hn2;clear hfr he0 hn0 hn2 hlen2 hbd hcx;(go_wp2_with fail);(with_reducible refine HAT.o.mono ?_);rintro r w8 ⟨rfl,hb8⟩;have HX8:=Zh (HX7.o.trans (Nxw.below hb8 (Yu HMV.o.lt HB7.o.size)));have HB8:=Zh (Zb HB7.o hb8);have HC8:=Zh (HC6.o.below HB8.o HC6.o.lt);have HSX:=Zh (show ∀ V,Bw w8 V→V.cell? ⟨qb,2,none⟩=some (.slice CA NC cC)∧V.cell? ⟨w.heap.size,1,none⟩=some (.slice A2 n2 c2) from fun V hV=>⟨Zc hV (Zn _) (HQ.o w8 HX8.o).q2,Zc hV (Zn _) (Zq HC8.o)⟩);clear hb8 q1;(go_wp2_with fail);refine wp_region_held_drew (S:=fun V=>Bw w8 V) Kf (Zr _ _).drew (fun _=>?_);refine tzd 0 106 ?_;refine tzd 4 110 ?_;refine tzd 8 114 ?_;refine tzd 12 118 ?_;refine tzb 16 122 ?_;refine tz 18 124 ?_;refine Zd ?_;(go_wp2_with fail);refine wp_region_held_drew (S:=fun V=>Bw w8 V) Kf (Zr _ _).drew.drew (fun _=>?_);refine tzd 0 125 ?_;refine tzd 4 129 ?_;refine tzd 8 133 ?_;refine tz 12 137 ?_;refine tzb 13 6 ?_;refine Zd ?_;obtain ⟨v9,hv9⟩:∃ V,V=w8.drew.drew:=⟨_,rfl⟩;rw [←hv9];have HB9:=Zh (show Bw w6 v9 by rw [hv9];exact HB8.o.drew.drew);clear hv9;(go_wp2_with fail);refine bodyPost_ret (v:=.tuple #[.slice A2 n2 c2,.slice (CA.map (·.add e0)) n2 (cC-e0)]) (by simp [results,results133,go_sem]) rfl ?_;have hcl:=HCL.o.sub e0 n2 HBD.o.1;rw [HN2.o] at hcl;refine ⟨A2,_,n2,c2,_,n,x.2,_,f,rfl,HNX2.o,HR2.o.le (G2.more HB9.o),?_,HMV.o.below HB9.o,HNN.o,HMCV.o.le (G2.more HB9.o),HX6.o.trans (Nxw.below HB9.o HMV.o.lt),HBD.o.2.2⟩;rw [HN2.o];exact hcl.le (HG2.o v9 (HX6.o.trans (Nxw.below HB9.o HMV.o.lt)))}
 | none =>
  have q1:=(HQ.o w HX0.o).q1;have hqb:qb<w.heap.size:=Qaj q1
  go_wp2_with (at_lookup;with_reducible refine Ril rfl _ _ rfl J c rfl HMQ.o rfl HJL.o.1 HJL.o.2 ?_)
  (refine Qab ?_;intro w6 hw6);have hb6:Bw w w6:=by rw [hw6];exact Qag
  have hC6:Blk w6 w.heap.size 215 #[.slice none 0 0,.slice none 0 0]:=by rw [hw6];exact Blk.new _ _ _
  have HX6:=Zh (Nxw.below hb6 HMQ.o.lt);clear hw6 hf q1;with_reducible refine (HGT.o w6 HX6.o).mono ?_
  rintro r w7 ⟨A1,n1,c1,A2,n2,c2,rfl,ho1,ho2,hb7⟩;have hC7:=hC6.below hb7 hC6.lt;obtain ⟨z0,z1,f0,f1⟩:=hC7.two;have HO1:=Zh ((ho1.far (Qac w7 w.heap.size 0 (.slice A1 n1 c1)) (.inr (ho1.ne hC6.lt))).far (Qac _ w.heap.size 1 (.slice A2 n2 c2)) (.inr (ho1.ne hC6.lt)));have HO2:=Zh ((ho2.far (Qac w7 w.heap.size 0 (.slice A1 n1 c1)) (.inr (ho2.ne hC6.lt))).far (Qac _ w.heap.size 1 (.slice A2 n2 c2)) (.inr (ho2.ne hC6.lt)));have HB7:=Zh (Zi (o:=1) (u:=.slice A2 n2 c2) (Zi (o:=0) (u:=.slice A1 n1 c1) (Zb hb6 hb7) (Zn _)) (Zn _));have HC7:=Zh ((hC7.set_ 0 (.slice A1 n1 c1)).set_ 1 (.slice A2 n2 c2));have HZ6:=Zh (show w.heap.size≤w6.heap.size from hb6.size);clear ho1 ho2 hC6 hC7 hb6 hb7;go_wp2_with fail
  (refine Qai ?_;intro w8 hw8);have hb8:Bw w w8:=by rw [hw8];exact HB7.o
  have HC8:=Zh (show Blk w8 w.heap.size 215 #[.slice A1 n1 c1,.slice A2 n2 c2] by rw [hw8];exact HC7.o);have HO1:=Zh (show Own w8 w6.heap.size 3 1 A1 n1 c1 (Qae x.1) by rw [hw8];exact HO1.o);have HO2:=Zh (show Own w8 w6.heap.size 3 1 A2 n2 c2 (Qae x.2) by rw [hw8];exact HO2.o);have HB8:=Zh hb8;have HX8:=Zh (Nxw.below hb8 HMQ.o.lt);clear hw8 hb8 HB7 HC7;have x6:=(HQ.o w8 HX8.o).q6;have z0:w8.cell? ⟨w.heap.size,0,none⟩=some (.slice A1 n1 c1):=Zq HC8.o;have z1:w8.cell? ⟨w.heap.size,1,none⟩=some (.slice A2 n2 c2):=Zq HC8.o;refine Qbk 8 (S:=fun V=>V.cell? ⟨qb,5,none⟩=some (.map (some mb))∧V.cell? ⟨w.heap.size,0,none⟩=some (.slice A1 n1 c1)∧V.cell? ⟨w.heap.size,1,none⟩=some (.slice A2 n2 c2)) Kf ⟨x6,z0,z1⟩ (fun _=>?_);refine tkK 0 86 (h:=⟨_,tv,?_⟩);simp only [pE,List.set];refine tkK 1 87 (h:=⟨_,tv,?_⟩);simp only [pE,List.set];refine tkK 2 88 (h:=⟨_,tv,?_⟩);simp only [pE,List.set];refine tkK 3 89 (h:=⟨_,tv,?_⟩);simp only [pE,List.set];refine tkK 4 90 (h:=⟨_,tv,?_⟩);simp only [pE,List.set];refine tkK 5 91 (h:=⟨_,tv,?_⟩);simp only [pE,List.set];refine tkK 6 92 (h:=⟨_,tv,?_⟩);simp only [pE,List.set];refine tkK 7 93 (h:=⟨_,tv,?_⟩);simp only [pE,List.set];have hmq8:MpQ w8.drew mb n f:=(HMQ.o.below HB8.o).at_ rfl;refine Qcb (k:=8) Kf rfl (fun K hK=>?_);refine (if_pos (by rfl)).mpr ?_;refine Qyc _ _ _ rfl J c _ rfl hmq8 Oo rfl rfl HJL.o.1 HJL.o.2 (fun w9 hm9 hg9=>?_);refine hK.out _ _ ?_;clear hK K;refine Qbv Kf ?_ _;clear x6 z0 z1 hmq8;have hX8:Nxw mb w w8.drew:=Nxw.below HB8.o.drew HMQ.o.lt;have HX9:=Zh (hX8.trans (Nxw.grown hg9 (Yu HMQ.o.lt HB8.o.size)));have hC8:Blk w8.drew w.heap.size 215 #[.slice A1 n1 c1,.slice A2 n2 c2]:=HC8.o;have HC9:=Zh (hC8.grown hg9 (fun e=>by have:=HMQ.o.lt;cases e;omega));have ho1:Own w8.drew w6.heap.size 3 1 A1 n1 c1 (Qae x.1):=HO1.o;have ho2:Own w8.drew w6.heap.size 3 1 A2 n2 c2 (Qae x.2):=HO2.o;have hmb6:mb<w6.heap.size:=Yu HMQ.o.lt HZ6.o
  have HR1:=Zh (show RdI (msk w9 (G2 G w w9)) A1 n1 x.1 from (ho1.far hg9 (.inr (ho1.ne hmb6))).rdM (fun b h1 h2=>.inr ⟨Yx HZ6.o h1,h2⟩));have HR2:=Zh (show RdI (msk w9 (G2 G w w9)) A2 n2 x.2 from (ho2.far hg9 (.inr (ho2.ne hmb6))).rdM (fun b h1 h2=>.inr ⟨Yx HZ6.o h1,h2⟩));have HMV:=Zh hm9;have HNN:=Zh (show n+1≤n+1 from Zn _);have hput:=(HMC.o.le (HG2.o w9 HX9.o)).put (c1:=c1) (c2:=c2) HL.o HX.o HR1.o HR2.o;rw [←HJ.o] at hput;have HMCV:=Zh hput;clear hput ho1 ho2 hmb6 hC8 hX8 hg9 hm9 HX8 HC8 HO1 HO2 HB8 HX6;have z0:w9.cell? ⟨w.heap.size,0,none⟩=some (.slice A1 n1 c1):=Zq HC9.o;have HX6:=HX9;have HC6:=HC9;clear HX9 HC9;go_wp2_with fail
  clear z0;have hq6:=HQ.o w9 HX6.o;have q1:=hq6.q1;have z0:w9.cell? ⟨w.heap.size,0,none⟩=some (.slice A1 n1 c1):=Zq HC6.o;have HPL:=Zh (Qjw A1 n1 c1 x.1 (a:Int) w9 (HR1.o.le (Qan _ _)) HSO.o (by rw [←HR1.o.1];have:=HGL.o.1;omega));rw [HPI.o] at HPL;clear hq6;with_reducible refine HPL.o.mono ?_
  rintro r w7 ⟨rfl,hb7⟩;have HX7:=Zh (HX6.o.trans (Nxw.below hb7 HMV.o.lt));have HB7:=Zh hb7;have q1:=(HQ.o w7 HX7.o).q1;have HAT:=Zh (HFR.o w7 HX7.o);have w0:¬((i:Int)<0):=Oo
  clear z0 hb7;by_cases hn0:x.2.length=0;{(have hfr:Que (Qah N.ar ls) (Qaf N.ar l) j c x i = -1:=by unfold Que;rw [if_pos hn0]);rw [hfr] at HAT;have HN0:=Zh hn0;clear hfr hn0;(go_wp2_with fail);(with_reducible refine HAT.o.mono ?_);rintro r w8 ⟨rfl,hb8⟩;have HB8:=Zh (Zb HB7.o hb8);clear hb8 q1;(go_wp2_with fail);refine wp_region_held_drew (S:=fun V=>V=w8.drew) Kf rfl (fun _=>?_);refine tzd 0 106 ?_;refine tzb 4 110 ?_;refine tz 6 112 ?_;refine tw 7 113 ?_;refine tw 8 114 ?_;refine tw 9 115 ?_;refine tw 10 116 ?_;refine tw 11 117 ?_;refine tw 12 118 ?_;refine tw 13 119 ?_;refine tw 14 120 ?_;refine tw 15 121 ?_;refine tw 16 122 ?_;refine tw 17 123 ?_;refine tz 18 124 ?_;refine Zd ?_;obtain ⟨v9,hv9⟩:∃ V,V=w8.drew:=⟨_,rfl⟩;rw [←hv9];have HB9:=Zh (show Bw w9 v9 by rw [hv9];exact HB8.o.drew);clear hv9;(go_wp2_with fail);refine bodyPost_ret (v:=.tuple #[.slice none 0 0,.slice none 0 0]) (by simp [results,results133,go_sem]) rfl ?_;have hx2:x.2=[]:=List.eq_nil_of_length_eq_zero HN0.o;have hnx:=HNX.o;rw [hx2] at hnx;exact ⟨none,none,0,0,0,(n+1),[],_,(fun p q=>if p=J∧q=c then some (.agg #[.slice A1 n1 c1,.slice A2 n2 c2]) else f p q),rfl,hnx,⟨rfl,fun i x h=>by simp at h⟩,⟨Sm,fun i x h=>by simp at h⟩,HMV.o.below HB9.o,HNN.o,HMCV.o.le (G2.more HB9.o),HX6.o.trans (Nxw.below HB9.o HMV.o.lt),Oo⟩};{obtain ⟨e0,he0⟩:=Zx (Qim (Qah N.ar ls) (Qaf N.ar l) j c x i 0);(have hfr:Que (Qah N.ar ls) (Qaf N.ar l) j c x i=(e0:Int):=by unfold Que;rw [if_neg hn0,he0]);(rw [hfr] at HAT;have HNX2:=Zh HNX.o;rw [←he0] at HNX2;have hn2:n2=x.2.length:=HR2.o.1.symm;have hlen2:=HNX2.o.len;rw [Yw,List.length_drop,HCL.o.1] at hlen2;have hbd:e0+n2≤NC∧0<n2∧n2≤16384:=by have:=HGL.o;omega);(have hcx:=HCC.o;have HCT:=Zh (Raj CA NC cC e0 n2 Oo hbd.2.1);have HBD:=Zh hbd;have w1:¬((e0:Int)<0):=Oo);(have w2:¬((NC:Int)<e0+n2):=Oo);(have w3:decide ((i:Int)<0)=false:=Sm);(have w4:decide ((e0:Int)<0)=false:=Sm);(have w5:decide ((NC:Int)<e0+n2)=false:=by simp;omega);have HWR:=Zh (show IntKind.i64.wrap ((e0:Int)+n2)=(e0:Int)+(n2:Int) from IntWalk.i64_in _ Oo);have hwr:=HWR.o;have hct:=HCT.o;have HN2:=Zh hn2;clear hfr he0 hn0 hn2 hlen2 hbd hcx;(go_wp2_with fail);(with_reducible refine HAT.o.mono ?_);rintro r w8 ⟨rfl,hb8⟩;have HX8:=Zh (HX7.o.trans (Nxw.below hb8 (Yu HMV.o.lt HB7.o.size)));have HB8:=Zh (Zb HB7.o hb8);have HC8:=Zh (HC6.o.below HB8.o HC6.o.lt);have HSX:=Zh (show ∀ V,Bw w8 V→V.cell? ⟨qb,2,none⟩=some (.slice CA NC cC)∧V.cell? ⟨w.heap.size,1,none⟩=some (.slice A2 n2 c2) from fun V hV=>⟨Zc hV (Zn _) (HQ.o w8 HX8.o).q2,Zc hV (Zn _) (Zq HC8.o)⟩);clear hb8 q1;(go_wp2_with fail);refine wp_region_held_drew (S:=fun V=>Bw w8 V) Kf (Zr _ _).drew (fun _=>?_);refine tzd 0 106 ?_;refine tzd 4 110 ?_;refine tzd 8 114 ?_;refine tzd 12 118 ?_;refine tzb 16 122 ?_;refine tz 18 124 ?_;refine Zd ?_;(go_wp2_with fail);refine wp_region_held_drew (S:=fun V=>Bw w8 V) Kf (Zr _ _).drew.drew (fun _=>?_);refine tzd 0 125 ?_;refine tzd 4 129 ?_;refine tzd 8 133 ?_;refine tz 12 137 ?_;refine tzb 13 6 ?_;refine Zd ?_;obtain ⟨v9,hv9⟩:∃ V,V=w8.drew.drew:=⟨_,rfl⟩;rw [←hv9];have HB9:=Zh (show Bw w9 v9 by rw [hv9];exact HB8.o.drew.drew);clear hv9;(go_wp2_with fail);refine bodyPost_ret (v:=.tuple #[.slice A2 n2 c2,.slice (CA.map (·.add e0)) n2 (cC-e0)]) (by simp [results,results133,go_sem]) rfl ?_;have hcl:=HCL.o.sub e0 n2 HBD.o.1;rw [HN2.o] at hcl;refine ⟨A2,_,n2,c2,_,(n+1),x.2,_,(fun p q=>if p=J∧q=c then some (.agg #[.slice A1 n1 c1,.slice A2 n2 c2]) else f p q),rfl,HNX2.o,HR2.o.le (G2.more HB9.o),?_,HMV.o.below HB9.o,HNN.o,HMCV.o.le (G2.more HB9.o),HX6.o.trans (Nxw.below HB9.o HMV.o.lt),HBD.o.2.2⟩;rw [HN2.o];exact hcl.le (HG2.o v9 (HX6.o.trans (Nxw.below HB9.o HMV.o.lt)))}
theorem Nxw.gb {mb:Nat}{w w':World}(h:Nxw mb w w'):w.grownBy w' (some mb):=⟨(h.bel 0 (Nat.zero_le _)).os,(h.bel 0 (Nat.zero_le _)).tape,(h.bel 0 (Nat.zero_le _)).output,h.size,fun k hk hne=>h.kept k (fun e=>hne (by rw [e])) hk⟩
theorem Qcx.grown {W W':World}{G G':Nat→Prop}{g n mb:Nat}{hp:Nat→Option Int}(h:Qcx W G g n hp) (hg:W.grownBy W' (some mb)) (hm:G mb) (hG:∀ b,G' b→b<W'.heap.size∧(G b∨W.heap.size≤b)):Qcx W' G' g n hp:=by
 obtain ⟨A,gc,gs,m,c,R,C,S,h1,h2⟩:=h;have ho:∀ b,b<W.heap.size→¬G b→¬G' b:=fun b h3 h4 h5=>(hG b h5).2.elim h4 (fun h6=>by omega)
 have hne:∀ b,¬G b→b≠mb:=fun b hb e=>hb (e▸hm)
 refine ⟨A,gc,gs,m,c,R,C,S,⟨h1.blk.grown hg (fun e=>hne g h1.dG.1 (by injection e with e;exact e.symm)),h1.row.far hg (.inr (fun e=>hne mb (h1.dA mb e).2.2.2 rfl)),h1.cs.grown hg (fun e=>hne gc h1.dG.2.1 (by injection e with e;exact e.symm)),h1.ss.grown hg (fun e=>hne gs h1.dG.2.2 (by injection e with e;exact e.symm)),fun b hb'=>⟨(h1.dA b hb').1,(h1.dA b hb').2.1,(h1.dA b hb').2.2.1,ho b (h1.row.lt b hb').2 (h1.dA b hb').2.2.2⟩,h1.dg,⟨ho _ h1.blk.lt h1.dG.1,ho _ h1.cs.lt h1.dG.2.1,ho _ h1.ss.lt h1.dG.2.2⟩,fun b hb'=>(hG b hb').1,h1.lr,h1.lc,h1.ls,h1.n0⟩,h2⟩
theorem Qnl:∀ (l:List Bool)(p:Nat),l.countP (fun b=>b)≤(l.set p true).countP (fun b=>b)
 | [],p=>by simp
 | b::l,0=>by cases b <;> simp
 | b::l,p+1=>by have:=Qnl l p;cases b <;> simp <;> omega
