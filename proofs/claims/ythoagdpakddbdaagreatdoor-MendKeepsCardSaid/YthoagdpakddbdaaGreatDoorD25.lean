/- Parts of the proof: MdS, MdT, MdU, MdW, Err. -/
import Derived.Test.YthoagdpakddbdaaGreatDoorD1
import Derived.Test.YthoagdpakddbdaaGreatDoorD17
import Derived.Test.YthoagdpakddbdaaGreatDoorD23
import Derived.Test.YthoagdpakddbdaaGreatDoorD24
import Derived.LaidEql
import Derived.Stop.Asserts
import Derived.RowKitTokens
import Derived.Lib.IfaceEq
import Derived.Stop.IfaceNil
namespace Go.Proofs.YthoagdpakddbdaaGreatDoor
open Go.RowKit Go.Proofs.Tryz
--BEGINPLAIN
def tb (ls:List (List Int)) (f:Nat→Nat→Bool):List (List Bool):=(List.range ls.length).map (fun i=>(List.range (Qai (ls.getD i [])).toNat).map (f i))
theorem Qcs (ls:List (List Int)) (f:Nat→Nat→Bool):(tb ls f).length=ls.length:=by simp [tb]
theorem Qcx {ls:List (List Int)} {i:Nat} {l:List Int} (h:ls[i]?=some l):ls.getD i []=l:=by rw [List.getD_eq_getElem?_getD,h];rfl
theorem Qcw {ls:List (List Int)} {f:Nat→Nat→Bool} {i:Nat} {l:List Int} (h:ls[i]?=some l):(tb ls f)[i]?=some ((List.range (Qai l).toNat).map (f i)):=by
 unfold tb;rw [List.getElem?_map,List.getElem?_range (Zs h).1,Option.map_some,Qcx h]
theorem Qdh {ls:List (List Int)} {f g:Nat→Nat→Bool} (h:∀ (i:Nat) (l:List Int),ls[i]?=some l→∀ q,q<(Qai l).toNat→f i q=g i q):tb ls f=tb ls g:=by
 unfold tb;refine List.map_congr_left (fun i hi=>List.map_congr_left (fun q hq=>?_));have hi:=Zg (List.mem_range.1 hi);refine h i _ hi q ?_;rw [Qcx hi] at hq;exact List.mem_range.1 hq
def Qkz (N:Qaj)(p:Int)(l:List Int)(k q:Nat):Bool:=(List.range k).any (fun v=>(N.vs.getD v (0,0,0)).2.2 == p && Qaf l (v:Int) == (q:Int))
theorem Qpd (N:Qaj)(p:Int)(l:List Int)(k q:Nat):Qkz N p l (k+1) q=(Qkz N p l k q || ((N.vs.getD k (0,0,0)).2.2 == p && Qaf l (k:Int) == (q:Int))):=by
 unfold Qkz;rw [List.range_succ,List.any_append];simp
theorem Qro {N:Qaj}{p:Int}{l:List Int}{q:Nat}:Qkz N p l N.vs.length q=true↔∃ (v:Nat) (x:Tri),N.vs[v]?=some x∧x.2.2=p∧Qaf l (v:Int)=q:=by
 unfold Qkz;rw [List.any_eq_true]
 constructor
 · rintro ⟨v,hv,h⟩
   have hv:=List.mem_range.1 hv;rw [List.getD_eq_getElem?_getD,Zg hv] at h;simp only [Option.getD_some,Bool.and_eq_true,beq_iff_eq] at h;exact ⟨v,_,Zg hv,h.1,h.2⟩
 · rintro ⟨v,x,h1,h2,h3⟩
   refine ⟨v,List.mem_range.2 (Zs h1).1,?_⟩;rw [List.getD_eq_getElem?_getD,h1];simp [h2,h3]
def trnI (t:Qdb)(c:Chn):Nat:=c.2.2.1.toNat*t.outs.toNat+c.2.2.2.1.toNat
def chgM (N:Qaj)(c:Chn)(l:List Int)(q:Nat):Bool :=
 if c.1=1 then (match N.ar[c.2.1.toNat]? with|some y=>y.2.2 != c.w && (Qaf l y.1 == (q:Int) && Qaf l y.2.1 == (q:Int))|none=>false)
 else (match N.ts[c.2.1.toNat]? with|some t=>t.costs.getD (trnI t c) 0 != c.w && Qkz N c.2.1 l N.vs.length q|none=>false)
def tchB (N:Qaj)(ch:List Chn)(l:List Int)(q:Nat):Bool:=ch.any (fun c=>chgM N c l q)
def Qcc (N:Qaj) (ls:List (List Int)) (ch:List Chn) (i q:Nat):Bool:=tchB N ch (ls.getD i []) q
theorem Qxi (N:Qaj)(ch:List Chn)(c:Chn)(l:List Int)(q:Nat):tchB N (ch ++[c]) l q=(tchB N ch l q || chgM N c l q):=by simp [tchB]
theorem Qgt.marks {N:Qaj}{c:Chn}{a:Nat}(h:Qgt N c a){y:Tri} (hy:N.ar[a]?=some y) (l:List Int) (q:Nat):chgM N c l q=(y.2.2 != c.w && (Qaf l y.1 == (q:Int) && Qaf l y.2.1 == (q:Int))):=by
 unfold chgM;have e:c.2.1.toNat=a:=by rw [h.at_,Int.toNat_natCast]
 rw [if_pos h.k,e,hy]
theorem Qbs.marks {N:Qaj}{c:Chn}{p i:Nat}{t:Qdb}(h:Qbs N c p i t)(l:List Int)(q:Nat):chgM N c l q=(t.costs.getD i 0 != c.w && Qkz N (p:Int) l N.vs.length q):=by
 unfold chgM;have e:c.2.1.toNat=p:=by rw [h.at_,Int.toNat_natCast]
 rw [if_neg (by rw [h.k];decide),e,h.tt];simp only;rw [h.at_,show trnI t c=i from h.i.symm]
def netT (N M:Qaj)(l:List Int)(q:Nat):Prop :=
 (∃ (b:Nat) (y z:Tri),N.ar[b]?=some y∧M.ar[b]?=some z∧Qaf l y.1=(q:Int)∧Qaf l y.2.1=(q:Int)∧z.2.2≠y.2.2) ∨
 ∃ (v:Nat) (x:Tri),N.vs[v]?=some x∧Qaf l (v:Int)=(q:Int)∧M.ts[x.2.2.toNat]?≠N.ts[x.2.2.toNat]?
theorem tab_ext {s t:Qdb}(h1:s.ins=t.ins)(h2:s.outs=t.outs) (h3:∀ i:Nat,s.costs[i]?=t.costs[i]?):s=t:=by
 cases s
 cases t
 simp only at h1 h2 h3;rw [h1,h2,List.ext_getElem? h3]
theorem Qki {N:Qaj}(hN:Qau N){ch:List Chn}(h:Qch N ch){l:List Int}{q:Nat}:tchB N ch l q=true↔netT N (Qfg N ch) l q:=by
 unfold tchB;rw [List.any_eq_true]
 constructor
 · rintro ⟨c,hc,hm⟩
   rcases h.all c hc with ⟨a,hs⟩|⟨p,i,t,hb⟩
   · obtain ⟨⟨x,y,z⟩,ha⟩:∃ e,N.ar[a]?=some e:=⟨_,Zg hs.lt⟩
     rw [hs.marks ha] at hm;simp only [Bool.and_eq_true,beq_iff_eq,bne_iff_ne] at hm;obtain ⟨u,e1,e2,_⟩:=Qjq h ha;exact .inl ⟨a,_,_,ha,e1,hm.2.1,hm.2.2,by simp only;rw [e2 c hc hs];exact fun e=>hm.1 e.symm⟩
   · rw [hb.marks] at hm
     simp only [Bool.and_eq_true,bne_iff_ne] at hm;obtain ⟨v,x,hv,e1,e2⟩:=Qro.1 hm.2;obtain ⟨t',k1,k2,k3,k4,k5⟩:=Qjc hN h hb.tt;refine .inr ⟨v,x,hv,e2,?_⟩;rw [e1,Int.toNat_natCast,k1,hb.tt];intro e
     cases e
     have h1:=(k5 i).1 c hc hb
     apply hm.1
     rw [List.getD_eq_getElem?_getD,h1]
     rfl
 · rintro (⟨b,⟨x,y,z⟩,z2,h1,h2,h3,h4,h5⟩|⟨v,x,h1,h2,h3⟩)
   · obtain ⟨u,e1,e2,e3⟩:=Qjq h h1
     rw [h2] at e1
     cases e1
     have:∃ c∈ch,Qgt N c b:=by
      apply Classical.byContradiction
      intro hn;exact h5 (e3 (fun c hc hs=>hn ⟨c,hc,hs⟩))
     obtain ⟨c,hc,hs⟩:=this;refine ⟨c,hc,?_⟩;rw [hs.marks h1];simp only [Bool.and_eq_true,beq_iff_eq,bne_iff_ne];exact ⟨fun e=>h5 (by rw [e2 c hc hs];exact e.symm),h3,h4⟩
   · have ho:=hN.verts x (Zm h1)
     have t0:=ho.t0;have t1:=ho.t1;obtain ⟨p,hp⟩:∃ p:Nat,x.2.2=p:=⟨x.2.2.toNat,by omega⟩;rw [hp,Int.toNat_natCast] at h3;obtain ⟨t,ht⟩:∃ t,N.ts[p]?=some t:=⟨_,Zg (by omega)⟩;obtain ⟨t',k1,k2,k3,k4,k5⟩:=Qjc hN h ht
     have:∃ c∈ch,∃ i,Qbs N c p i t∧t.costs[i]?≠some c.w:=by
      apply Classical.byContradiction
      intro hn
      apply h3
      rw [k1,ht]
      congr 1
      refine tab_ext k2 k3 (fun i=>?_)
      by_cases hex:∃ c∈ch,Qbs N c p i t
      · obtain ⟨c,hc,hb⟩:=hex
        rw [(k5 i).1 c hc hb];exact (Classical.byContradiction (fun hne=>hn ⟨c,hc,i,hb,hne⟩):t.costs[i]?=some c.w).symm
      · exact (k5 i).2 (fun c hc hb=>hex ⟨c,hc,hb⟩)
     obtain ⟨c,hc,i,hb,hne⟩:=this;refine ⟨c,hc,?_⟩;rw [hb.marks];simp only [Bool.and_eq_true,bne_iff_ne];refine ⟨fun e=>hne ?_,Qro.2 ⟨v,x,h1,hp,h2⟩⟩;have hl:=hb.lt hN;rw [List.getD_eq_getElem?_getD,Zg hl] at e;rw [Zg hl];exact congrArg some e
theorem netT.split {N A M:Qaj}(hk:Kin N A){l:List Int}{q:Nat}(h:netT N M l q):netT N A l q∨netT A M l q:=by
 rcases h with ⟨b,y,z,h1,h2,h3,h4,h5⟩|⟨v,x,h1,h2,h3⟩
 · obtain ⟨u,hu,q1,q2⟩:=hk.al.symm.get h1
   by_cases e:u.2.2=y.2.2
   · exact .inr (.inl ⟨b,u,z,hu,h2,by rw [q1];exact h3,by rw [q2];exact h4,by rw [e];exact h5⟩)
   · exact .inl (.inl ⟨b,y,u,h1,hu,h3,h4,e⟩)
 · by_cases e:A.ts[x.2.2.toNat]?=N.ts[x.2.2.toNat]?
   · exact .inr (.inr ⟨v,x,by rw [hk.vs];exact h1,h2,by rw [e];exact h3⟩)
   · exact .inl (.inr ⟨v,x,h1,h2,e⟩)
theorem Qee.of {N M:Qaj}(hk:Kin N M){l:List Int}{q:Nat}(h:¬netT N M l q):Qee N M (Qef l q):=by
 have hc:∀ n:Nat,(Qef l (q:Int)).getD n false=true→l.getD n 0=(q:Int):=by
  intro n hn;unfold Qef at hn;rw [List.getD_eq_getElem?_getD,List.getElem?_map] at hn;rw [List.getD_eq_getElem?_getD]
  cases e:l[n]? with
  | none=>rw [e] at hn;simp at hn
  | some z=>rw [e] at hn;simpa using hn
 refine ⟨hk,fun b y z h1 h2 h3 h4=>?_,fun v x h1 h2=>?_⟩
 · exact Classical.byContradiction (fun e=>h (.inl ⟨b,y,z,h1,h2,hc _ h3,hc _ h4,e⟩))
 · refine Classical.byContradiction (fun e=>h (.inr ⟨v,x,h1,?_,e⟩))
   unfold Qaf;rw [Int.toNat_natCast];exact hc _ h2
--ENDPLAIN
--BEGINPLAIN
theorem Qsm {a b:Bool}(h:a=true↔b=true):a=b:=by
 cases a <;> cases b <;> simp_all
theorem Qmy:∀ {l m:List Chn}{N:Qaj},Qch N (l ++m)→Qch N l∧Qch (Qfg N l) m
 | [],m,N,h=>⟨⟨fun c hc=>by simp at hc,by simp⟩,h⟩
 | c::l,m,N,h=>by
  obtain ⟨h1,h2⟩:=Qmy (l:=l) (m:=m) h.tail;refine ⟨⟨fun d hd=>h.all d ?_,?_⟩,h2⟩
  · rcases List.mem_cons.1 hd with rfl|hd
    · exact List.mem_append_left _ (List.mem_cons_self ..)
    · exact List.mem_append_left _ (List.mem_cons_of_mem _ hd)
  · have:=h.keys
    rw [List.map_append,List.nodup_append] at this;exact this.1
theorem Qwn {N:Qaj}(hN:Qau N){l m:List Chn} (h:Qch N (l ++m)) (r:List Int) (q:Nat):tchB N (l ++m) r q=(tchB N l r q || tchB (Qfg N l) m r q):=by
 obtain ⟨h1,h2⟩:=Qmy h;have hA:=Qrz hN h1;have hs:=Qcl h1;refine Qsm ?_;rw [Bool.or_eq_true]
 constructor
 · intro g
   rw [Qki hN h1,Qki hA h2,←Qms];exact ((Qki hN h).1 g).split hs.kin
 · unfold tchB
   rw [List.any_append,Bool.or_eq_true];rintro (g|g)
   · exact .inl g
   · refine .inr ?_
     rw [List.any_eq_true] at g ⊢;obtain ⟨c,hc,hm⟩:=g;refine ⟨c,hc,?_⟩
     have hne:∀ d∈l,d.key≠c.key:=fun d hd=>by
      have:=h.keys;rw [List.map_append,List.nodup_append] at this;exact this.2.2 _ (List.mem_map.2 ⟨d,hd,rfl⟩) _ (List.mem_map.2 ⟨c,hc,rfl⟩)
     rcases h.all c (List.mem_append_right _ hc) with ⟨a,hcs⟩|⟨p,i,t,hcb⟩
     · obtain ⟨⟨x,y,z⟩,ha⟩:∃ e,N.ar[a]?=some e:=⟨_,Zg hcs.lt⟩
       obtain ⟨u,k1,_,k3⟩:=Qjq h1 ha;rw [(hcs.shape hs).marks k1,k3 (fun d hd hds=>hne d hd (hcs.key hds))] at hm;rw [hcs.marks ha];exact hm
     · obtain ⟨t1,k1,k2,k3,k4,k5⟩:=Qjc hN h1 hcb.tt
       have hcb1:Qbs (Qfg N l) c p i t1:=⟨hcb.k,hcb.at_,k1,hcb.in0,by rw [k2];exact hcb.in1,hcb.out0,by rw [k3];exact hcb.out1,by rw [k3];exact hcb.i,hcb.w⟩;rw [hcb1.marks,List.getD_eq_getElem?_getD,(k5 i).2 (fun d hd hdb=>hne d hd (hcb.key hdb rfl)),←List.getD_eq_getElem?_getD] at hm;rw [hcb.marks]
       have ev:Qkz (Qfg N l) (p:Int) r (Qfg N l).vs.length q=Qkz N (p:Int) r N.vs.length q:=by
        unfold Qkz;rw [hs.kin.vs]
       rw [ev] at hm;exact hm
def Qlh (r:List Bool):Nat:=r.countP (fun b=>b)
def Qeq (t:List (List Bool)):Nat:=(t.map Qlh).sum
theorem Qou (f g h:Nat→Bool)(hfg:∀ q,f q=true→g q=true∨h q=true):∀ n,Qlh ((List.range n).map f)≤Qlh ((List.range n).map g)+Qlh ((List.range n).map h)
 | 0=>by simp [Qlh]
 | n+1=>by
  have ih:=Qou f g h hfg n;unfold Qlh at *;rw [List.range_succ,List.map_append,List.map_append,List.map_append,List.countP_append,List.countP_append,List.countP_append];have:=hfg n;generalize ((List.range n).map f).countP (fun b=>b)=a at ih ⊢;generalize ((List.range n).map g).countP (fun b=>b)=b at ih ⊢;generalize ((List.range n).map h).countP (fun b=>b)=c at ih ⊢;simp only [List.map_cons,List.map_nil,List.countP_cons,List.countP_nil]
  have e1:(if f n=true then 1 else 0)≤(if g n=true then 1 else 0)+(if h n=true then 1 else 0:Nat):=by
   split
   · rename_i hf
     rcases this hf with e|e
     · rw [if_pos e];omega
     · rw [if_pos e];omega
   · omega
  omega
theorem Qqo (F G H:Nat→Nat)(h:∀ i,F i≤G i+H i):∀ n,((List.range n).map F).sum≤((List.range n).map G).sum+((List.range n).map H).sum
 | 0=>by simp
 | n+1=>by
  have ih:=Qqo F G H h n;have:=h n;rw [List.range_succ,List.map_append,List.map_append,List.map_append,List.sum_append,List.sum_append,List.sum_append];simp only [List.map_cons,List.map_nil,List.sum_cons,List.sum_nil];omega
theorem how_tb (ls:List (List Int)) (f g h:Nat→Nat→Bool) (hfg:∀ i q,f i q=true→g i q=true∨h i q=true):Qeq (tb ls f)≤Qeq (tb ls g)+Qeq (tb ls h):=by
 unfold Qeq tb;rw [List.map_map,List.map_map,List.map_map];exact Qqo _ _ _ (fun i=>Qou (f i) (g i) (h i) (hfg i) _) _
theorem how_le (ls:List (List Int)) (f g:Nat→Nat→Bool) (hfg:∀ i q,f i q=true→g i q=true):Qeq (tb ls f)≤Qeq (tb ls g):=by
 have h:=how_tb ls f g (fun _ _=>false) (fun i q h=>.inl (hfg i q h))
 have h0:Qeq (tb ls (fun _ _=>false))=0:=by
  unfold Qeq tb;rw [List.map_map];refine Nat.le_zero.1 (Nat.le_trans (Qqo _ (fun _=>0) (fun _=>0) (fun i=>?_) _) ?_)
  · simp [Qlh,List.countP_eq_zero]
  · rw [List.map_const']
    simp
 omega
theorem Qok {r:List Bool}{i:Nat}{b:Bool} (h:r[i]?=some b):Qlh (r.take (i+1))=Qlh (r.take i)+(if b=true then 1 else 0):=by
 rw [List.take_succ_eq_append_getElem (Zs h).1,(Zs h).2];unfold Qlh;rw [List.countP_append];simp
theorem Qpk {t:List (List Bool)} {i:Nat} {r:List Bool} (h:t[i]?=some r):Qeq (t.take (i+1))=Qeq (t.take i)+Qlh r:=by
 rw [List.take_succ_eq_append_getElem (Zs h).1,(Zs h).2];unfold Qeq;simp
--ENDPLAIN
def Qgx (N M:Qaj) (ls:List (List Int)) (i c:Nat) (cl:List Int):Prop:=∀ (k:Nat) (lb:List Int) (q:Nat) (y:Qam) (a b s t:Nat),¬(k<i∨k=i∧q<c)→ls[k]?=some lb→(gateRow M.ar lb)[q]?=some y→y.1[a]?=some (s:Int)→y.2[b]?=some (t:Int) →
 Qhr N (Qef lb q) s t (cl.getD (Qgk (gatesOf M.ar ls) (gateRow M.ar lb) k q y a b) 0)
theorem Qgx.start {N M:Qaj}(hk:Kin N M) {ls:List (List Int)} {cl:List Int} (h:Qds N ls cl):Qgx N M ls 0 0 cl:=fun k lb q y a b s t _ hb hy h1 h2=>by
 rw [hk.al.gateRow] at hy;rw [hk.al.gatesOf,hk.al.gateRow];exact h.done ls.length 0 k lb q y a b s t (.inl (Zs hb).1) hb hy h1 h2
theorem Qgx.skip {N M:Qaj} {ls:List (List Int)} {i c:Nat} {cl:List Int} (h:Qgx N M ls i c cl):Qgx N M ls i (c+1) cl:=fun k lb q y a b s t hn=>h k lb q y a b s t (by omega)
theorem Qgx.up {N M:Qaj} {ls:List (List Int)} {i c:Nat} {cl:List Int} (h:Qgx N M ls i c cl):Qgx N M ls (i+1) 0 cl:=fun k lb q y a b s t hn=>h k lb q y a b s t (by omega)
theorem Qgx.next {N M:Qaj} {ls:List (List Int)} {i c:Nat} {l:List Int} {x:Qam} {cl ces:List Int} (h:Qgx N M ls i c cl) (hl:ls[i]?=some l) (hx:(gateRow M.ar l)[c]?=some x) (hn:ces.length=szG x)
 (hfit:Qbf ((gatesOf M.ar ls).take i)+Qda ((gateRow M.ar l).take c)+szG x≤cl.length) :
 Qgx N M ls i (c+1) (splice cl (Qbf ((gatesOf M.ar ls).take i)+Qda ((gateRow M.ar l).take c)) ces):=fun k lb q y a b s t hk hb hy h1 h2=>by
 have hge:Qbf ((gatesOf M.ar ls).take i)+Qda ((gateRow M.ar l).take c)+szG x≤Qgk (gatesOf M.ar ls) (gateRow M.ar lb) k q y a b:=by
  have e1:=Qbl hx;unfold Qgk
  by_cases e:k=i
  · subst e
    rw [hl] at hb
    cases hb
    have:=Qfp (gateRow M.ar l) (show c+1≤q by omega)
    omega
  · have e2:=Qfm (gatesOf M.ar ls) (show i+1≤k by omega)
    rw [Qbr (Qba (ar:=M.ar) hl)] at e2;have e3:=Qeh (gateRow M.ar l) (c+1);omega
 rw [Qjv (by omega),if_neg (by omega),if_neg (by omega)];exact h k lb q y a b s t (by omega) hb hy h1 h2
theorem Qxa {N:Qaj}(hok:Qau N){l:List Int}(hl:l.length=N.vs.length){c:Nat}{x:Qam} (hx:(gateRow N.ar l)[c]?=some x) {a s:Nat} (h:x.1[a]?=some (s:Int)):∀ y,N.ar[s]?=some y→(Qef l c).getD y.2.1.toNat false=true:=fun y hy=>by
 obtain ⟨y',e,_,h2⟩:=(Qeb hx).1 (Zm h);rw [hy] at e
 cases e
 have ho:=hok.arcs y (Zm hy);have g0:=ho.g0;have g1:=ho.g1;exact (Qhu (by omega)).2 h2
theorem Qdo.keep {N M:Qaj}(hok:Qau N)(hs:Kin N M) {ls:List (List Int)} {i c:Nat} {l:List Int} {cl:List Int} (h:Qdo M ls i c cl) (hr:Qgx N M ls i c cl) (hl:ls[i]?=some l) (hll:l.length=N.vs.length) (hc:¬netT N M l c):Qdo M ls i (c+1) cl:=fun k lb q y a b s t hk hb hy h1 h2=>by
 by_cases hkq:k<i∨k=i∧q<c
 · exact h k lb q y a b s t hkq hb hy h1 h2
 · obtain ⟨rfl,rfl⟩:k=i∧q=c:=by omega
   have he:=hr k lb q y a b s t hkq hb hy h1 h2;rw [hl] at hb
   cases hb
   refine (Qee.of hs hc).ent (Qxa hok hll ?_ h1) he;rw [←hs.al.gateRow];exact hy
theorem Qej.kin {N M:Qaj}(hk:Kin N M) {ls:List (List Int)} {k i c a b s t:Nat} {l:List Int} {x:Qam} (h:Qej N ls k i l c x a b s t):Qej M ls k i l c x a b s t :=
 ⟨h.hl,by rw [hk.al.gateRow];exact h.hx,h.ha,h.hb,by rw [hk.al.gateRow,hk.al.gatesOf];exact h.hk⟩
theorem Qxx {N M:Qaj}(hok:Qau N)(hk:Kin N M) {ls:List (List Int)} {cl cl':List Int} (h:Qds N ls cl) (g:Qds M ls cl') {k i c a b s t:Nat} {l:List Int} {x:Qam} (he:Qej N ls k i l c x a b s t) (hll:l.length=N.vs.length) (hc:¬netT N M l c):cl[k]?=cl'[k]?:=by
 obtain ⟨v,h1,h2⟩:=h.at_ he;obtain ⟨u,g1,g2⟩:=g.at_ (he.kin hk);rw [h1,g1,((Qee.of hk hc).ent (Qxa hok hll he.hx he.ha) h2).uniq g2]
def Quz (a b:List Int)(f n:Nat):Bool:=(List.range n).any (fun k=>a.getD (f+k) 0 != b.getD (f+k) 0)
theorem Qwo (a b:List Int)(f n:Nat):Quz a b f (n+1)=(Quz a b f n || a.getD (f+n) 0 != b.getD (f+n) 0):=by
 unfold Quz;rw [List.range_succ,List.any_append];simp
theorem Qfw {a b:List Int}{f n:Nat}:Quz a b f n=false↔∀ k,k<n→a.getD (f+k) 0=b.getD (f+k) 0:=by
 unfold Quz;rw [List.any_eq_false];simp
def Qca (ar:List Tri) (ls:List (List Int)) (i q:Nat):Nat:=Qbf ((gatesOf ar ls).take i)+Qda ((gateRow ar (ls.getD i [])).take q)
def Qff (ar:List Tri) (ls:List (List Int)) (i q:Nat):Nat:=szG ((gateRow ar (ls.getD i [])).getD q ([],[]))
def Qpu (ar:List Tri) (ls:List (List Int)) (a b:List Int) (i q:Nat):Bool:=Quz a b (Qca ar ls i q) (Qff ar ls i q)
theorem dif_tch {N:Qaj}(hok:Qau N){ch:List Chn}(hb:Qch N ch) {ls:List (List Int)} (hP:Qcg N.vs.length ls) {cl cl':List Int} (h:Qds N ls cl) (g:Qds (Qfg N ch) ls cl') {i q:Nat} {l:List Int} (hl:ls[i]?=some l) (hq:q<(Qai l).toNat) (hd:Qpu N.ar ls cl cl' i q=true):Qcc N ls ch i q=true:=by
 unfold Qcc;rw [Qcx hl];rw [Qki hok hb];refine Classical.byContradiction (fun hn=>?_)
 have hf:Qpu N.ar ls cl cl' i q=false:=by
  unfold Qpu;rw [Qfw];intro k hk;obtain ⟨x,hx⟩:∃ x,(gateRow N.ar l)[q]?=some x:=⟨_,Zg (by rw [Qan];exact hq)⟩;unfold Qff at hk;rw [Qcx hl,List.getD_eq_getElem?_getD,hx] at hk;obtain ⟨a,b,s,t,e,h1,h2⟩:=Qhf hx (k:=k) hk;have he:Qej N ls (Qca N.ar ls i q+k) i l q x a b s t:=⟨hl,hx,h1,h2,by unfold Qgk Qca;rw [Qcx hl,e]⟩;have:=Qxx hok (Qcl hb).kin h g he (hP.lvl l (Zm hl)).len hn;rw [List.getD_eq_getElem?_getD,List.getD_eq_getElem?_getD,this]
 rw [hf] at hd
 cases hd
def Qcb:List Chn→List Value
 | []=>[]
 | p::t=>.int .i64 p.1::.int .i64 p.2.1::.int .i64 p.2.2.1::.int .i64 p.2.2.2.1::.int .i64 p.2.2.2.2::Qcb t
theorem Qlo:∀ l:List Chn,(Qcb l).length=l.length*5
 | []=>rfl
 | _::t=>by simp [Qcb,Qlo t];omega
theorem Qlw:∀ l m:List Chn,Qcb (l ++m)=Qcb l ++Qcb m
 | [],_=>rfl
 | p::t,m=>by simp [Qcb,Qlw t m]
theorem Qqi {L:List Chn}{k:Nat}{p:Chn} (h:L[k]?=some p):Qcb (L.take (k+1))=Qcb (L.take k) ++[.int .i64 p.1,.int .i64 p.2.1,.int .i64 p.2.2.1,.int .i64 p.2.2.2.1,.int .i64 p.2.2.2.2]:=by
 obtain ⟨hlt,e⟩:=Zs h;rw [List.take_succ_eq_append_getElem hlt,e,Qlw]
 rfl
theorem Qmg:∀ {l:List Chn}{i:Nat}{p:Chn},l[i]?=some p→(Qcb l)[i*5]?=some (.int .i64 p.1)∧(Qcb l)[i*5+1]?=some (.int .i64 p.2.1)∧(Qcb l)[i*5+2]?=some (.int .i64 p.2.2.1)∧(Qcb l)[i*5+3]?=some (.int .i64 p.2.2.2.1)∧(Qcb l)[i*5+4]?=some (.int .i64 p.2.2.2.2)
 | [],i,p,h=>by simp at h
 | q::t,0,p,h=>by simp at h;subst h;simp [Qcb]
 | q::t,i+1,p,h=>by
  have:=Qmg (l:=t) (i:=i) (p:=p) (by simpa using h);rw [show (i+1)*5=i*5+1+1+1+1+1 by omega,show i*5+1+1+1+1+1+1=(i*5+1)+1+1+1+1+1 by omega,show i*5+1+1+1+1+1+2=(i*5+2)+1+1+1+1+1 by omega,show i*5+1+1+1+1+1+3=(i*5+3)+1+1+1+1+1 by omega,show i*5+1+1+1+1+1+4=(i*5+4)+1+1+1+1+1 by omega]
  simpa [Qcb] using this
theorem Qtl (l:List Chn):∀ u∈Qcb l,u.oneCell'=true:=by
 induction l with
 | nil=>intro u hu;cases hu
 | cons p t ih =>
  intro u hu;simp only [Qcb,List.mem_cons] at hu
  rcases hu with rfl|rfl|rfl|rfl|rfl|hu
  · rfl
  · rfl
  · rfl
  · rfl
  · rfl
  · exact ih u hu
def Qha (w:World)(A:Option Addr)(n:Nat)(l:List Chn):Prop :=
 l.length=n∧∀ i x,l[i]?=some x→∃ b o,A=some ⟨b,o,none⟩∧w.cell? ⟨b,o+i*5,none⟩=some (.int .i64 x.1)∧w.cell? ⟨b,o+i*5+1,none⟩=some (.int .i64 x.2.1)∧w.cell? ⟨b,o+i*5+2,none⟩=some (.int .i64 x.2.2.1)∧w.cell? ⟨b,o+i*5+3,none⟩=some (.int .i64 x.2.2.2.1)∧w.cell? ⟨b,o+i*5+4,none⟩=some (.int .i64 x.2.2.2.2)
theorem Qha.at_ {w:World}{A:Option Addr}{n i:Nat}{l:List Chn}(h:Qha w A n l)(hi:i<n) :
 ∃ b o x y z u v,A=some ⟨b,o,none⟩∧l[i]?=some (x,y,z,u,v)∧w.cell? ⟨b,o+i*5,none⟩=some (.int .i64 x)∧w.cell? ⟨b,o+i*5+1,none⟩=some (.int .i64 y)∧w.cell? ⟨b,o+i*5+2,none⟩=some (.int .i64 z)∧w.cell? ⟨b,o+i*5+3,none⟩=some (.int .i64 u)∧w.cell? ⟨b,o+i*5+4,none⟩=some (.int .i64 v):=by
 have hl:i<l.length:=by rw [h.1];exact hi
 obtain ⟨b,o,e,hc⟩:=h.2 i _ (Zg hl);exact ⟨b,o,_,_,_,_,_,e,Zg hl,hc⟩
theorem Qha.le {w w':World}{A:Option Addr}{n:Nat}{l:List Chn}(h:Qha w A n l)(hb:Le w w'):Qha w' A n l :=
 ⟨h.1,fun i x hx=>by
  obtain ⟨b,o,e,h1,h2,h3,h4,h5⟩:=h.2 i x hx;exact ⟨b,o,e,hb _ _ h1,hb _ _ h2,hb _ _ h3,hb _ _ h4,hb _ _ h5⟩⟩
theorem Qha.below {w w':World}{A:Option Addr}{n:Nat}{l:List Chn}(h:Qha w A n l)(hb:Below w.heap.size w w'):Qha w' A n l:=h.le (Le.below hb)
theorem Rds.rdC {w:World}{n:Nat}{A:Option Addr}{l:List Chn} (h:Rds w 5 A n (Qcb l)):Qha w A n l :=
 ⟨by have:=h.1;rw [Qlo] at this;omega,fun i p hp=>by
  obtain ⟨h1,h2,h3,h4,h5⟩:=Qmg hp;obtain ⟨b,o,e,c1⟩:=h.2 _ _ h1;obtain ⟨b',o',e',c2⟩:=h.2 _ _ h2;rw [e] at e';cases e'
  obtain ⟨b',o',e',c3⟩:=h.2 _ _ h3;rw [e] at e';cases e'
  obtain ⟨b',o',e',c4⟩:=h.2 _ _ h4;rw [e] at e';cases e'
  obtain ⟨b',o',e',c5⟩:=h.2 _ _ h5;rw [e] at e';cases e'
  exact ⟨b,o,e,c1,by rw [Nat.add_assoc];exact c2,by rw [Nat.add_assoc];exact c3,by rw [Nat.add_assoc];exact c4,by rw [Nat.add_assoc];exact c5⟩⟩
/-! rows of rows of marks -/
def RdQ (w:World)(A:Option Addr)(n:Nat) (ls:List (List Bool)):Prop :=
 ls.length=n∧∀ i l,ls[i]?=some l→∃ b o A' n' c',A=some ⟨b,o,none⟩∧w.cell? ⟨b,o+i,none⟩=some (.slice A' n' c')∧RdB w A' n' l∧n'≤c'∧c'≤9223372036854775807
theorem RdQ.at_ {w:World}{A:Option Addr}{n i:Nat} {ls:List (List Bool)} (h:RdQ w A n ls) (hi:i<n) :
 ∃ b o A' n' c' l,A=some ⟨b,o,none⟩∧ls[i]?=some l∧w.cell? ⟨b,o+i,none⟩=some (.slice A' n' c')∧RdB w A' n' l∧n'≤c'∧c'≤9223372036854775807:=by
 have hl:i<ls.length:=by rw [h.1];exact hi
 obtain ⟨b,o,A',n',c',h1,h2,h3,h4,h5⟩:=h.2 i _ (Zg hl);exact ⟨b,o,A',n',c',_,h1,Zg hl,h2,h3,h4,h5⟩
theorem RdQ.below {w w':World}{A:Option Addr}{n:Nat} {ls:List (List Bool)} (h:RdQ w A n ls) (hb:Below w.heap.size w w'):RdQ w' A n ls :=
 ⟨h.1,fun i l hl=>by
  obtain ⟨b,o,A',n',c',h1,h2,h3,h4,h5⟩:=h.2 i l hl;exact ⟨b,o,A',n',c',h1,Zc hb (Zn _) h2,h3.below hb,h4,h5⟩⟩
structure TlW (W:World) (B T:Nat) (cs:List Value) (bs:List Nat) (rows:List (List Bool)):Prop where
 lo:B≤T
 box:Blk W T 80 cs.toArray
 n:bs.length=rows.length
 at_:∀ (i b:Nat) (r:List Bool),bs[i]?=some b→rows[i]?=some r→cs[i]?=some (.slice (some ⟨b,0,none⟩) r.length r.length)
 row:∀ (i b:Nat) (r:List Bool),bs[i]?=some b→rows[i]?=some r→Blk W b 4 (Qco r)
 blo:∀ b∈bs,B≤b∧b≠T
 nd:bs.Nodup
section
variable {W W':World} {B T:Nat} {cs:List Value} {bs:List Nat} {rows:List (List Bool)}
theorem TlW.get (h:TlW W B T cs bs rows){i:Nat}{r:List Bool} (hr:rows[i]?=some r):∃ b,bs[i]?=some b∧cs[i]?=some (.slice (some ⟨b,0,none⟩) r.length r.length)∧Blk W b 4 (Qco r)∧B≤b∧b≠T:=by
 have hi:=(Zs hr).1;obtain ⟨b,hb⟩:∃ b,bs[i]?=some b:=⟨_,Zg (by rw [h.n];exact hi)⟩;have:=h.blo b (Zm hb);exact ⟨b,hb,h.at_ i b r hb hr,h.row i b r hb hr,this.1,this.2⟩
theorem TlW.cell (h:TlW W B T cs bs rows){i:Nat}{u:Value} (hc:cs[i]?=some u):W.cell? ⟨T,i,none⟩=some u:=by rw [h.box.cell];simpa using hc
theorem TlW.below (h:TlW W B T cs bs rows)(hb:Below W.heap.size W W'):TlW W' B T cs bs rows :=
 ⟨h.lo,h.box.below hb h.box.lt,h.n,h.at_,fun i b r h1 h2=>(h.row i b r h1 h2).below hb (h.row i b r h1 h2).lt,h.blo,h.nd⟩
theorem TlW.rdQ (h:TlW W B T cs bs rows)(hl:∀ r∈rows,r.length≤9223372036854775807):RdQ W (some ⟨T,0,none⟩) rows.length rows :=
 ⟨rfl,fun i r hr=>by
  obtain ⟨b,_,h2,h3,_⟩:=h.get hr;refine ⟨T,0,_,r.length,r.length,rfl,by rw [Nat.zero_add];exact h.cell h2,?_,Zn _,hl r (Zm hr)⟩;exact h3.rdB rfl⟩
theorem TlW.mark (h:TlW W B T cs bs rows){i b q:Nat}{r:List Bool} (hb:bs[i]?=some b) (hr:rows[i]?=some r) (v:Bool):TlW (W.setCell ⟨b,q,none⟩ (.bool v)) B T cs bs (rows.set i (r.set q v)):=by
 have hlt:=(Zs hr).1;have hbl:=(Zs hb).1;refine ⟨h.lo,?_,by rw [List.length_set];exact h.n,fun j b' r' h1 h2=>?_,fun j b' r' h1 h2=>?_,h.blo,h.nd⟩
 · exact h.box.far_ (h.blo b (Zm hb)).2.symm _
 · by_cases e:i=j
   · subst e
     rw [List.getElem?_set_self hlt] at h2
     cases h2
     rw [List.length_set];exact h.at_ i b' r h1 hr
   · rw [List.getElem?_set_ne e] at h2
     exact h.at_ j b' r' h1 h2
 · by_cases e:i=j
   · subst e
     rw [List.getElem?_set_self hlt] at h2
     cases h2
     rw [hb] at h1
     cases h1
     exact (h.row i b r hb hr).setB rfl
   · rw [List.getElem?_set_ne e] at h2
     have hne:b≠b':=fun e2=>by
      subst e2;exact e ((List.getElem?_inj hbl h.nd).1 (hb.trans h1.symm))
     exact (h.row j b' r' h1 h2).far_ (fun e2=>hne e2.symm) _
end
theorem TlW.start {W:World}{B T:Nat}{cs:List Value}(h:Blk W T 80 cs.toArray)(hB:B≤T):TlW W B T cs [] [] :=
 ⟨hB,h,rfl,fun i b r h1=>by simp at h1,fun i b r h1=>by simp at h1,fun b hb=>by simp at hb,by simp⟩
end Go.Proofs.YthoagdpakddbdaaGreatDoor
namespace Go.Proofs.YthoagdpakddbdaaGreatDoor
open Go.RowKit Go.Extern.Stop Go.Stop Go.Extern Go.Proofs.Tryz
abbrev Qpj (c:Int):Value:=.iface 100 (.int .i64 c)
abbrev fltV (b o:Nat):Value:=.iface 99 (.pointer (some ⟨b,o,none⟩))
def Qcp (w:World):Value→List (ByteArray×Int)→Int→Prop
 | v,[],c=>v=Qpj c
 | v,p::ps,c=>∃ b o u,v=fltV b o∧w.cell? ⟨b,o,none⟩=some (.string p.1)∧w.cell? ⟨b,o+1,none⟩=some (.int .i64 p.2)∧w.cell? ⟨b,o+2,none⟩=some u∧Qcp w u ps c
theorem Qcp.below {w w':World}(hb:Below w.heap.size w w'):∀ {ps:List (ByteArray×Int)} {v:Value} {c:Int},Qcp w v ps c→Qcp w' v ps c
 | [],_,_,h=>h
 | _::_,_,_,h=>by
  obtain ⟨b,o,u,h1,h2,h3,h4,h5⟩:=h;exact ⟨b,o,u,h1,Zc hb (Zn _) h2,Zc hb (Zn _) h3,Zc hb (Zn _) h4,Qcp.below hb h5⟩
/-! closed facts -/
theorem Qwc (v:Value)(w:World):(ReflectliteType.typeOf #[.iface 100 v]).run prog w=.ok (.iface 213 (.agg #[.pointer (some ⟨1,100,none⟩)])) w:=by kernel_rfl
def erComp : Array Value → Sem Value := ReflectliteType.method fun t => do Rtype.noPackHeld "Comparable" t; pure (.bool (← typeInfo t).comparable)
theorem Qnb (w:World):(erComp #[.agg #[.pointer (some ⟨1,100,none⟩)]]).run prog w=.ok (.bool true) w:=by kernel_rfl
theorem Qlb (v : Value) (w : World) : (Go.method 426 213 v "Comparable").run Tryz.prog w = .ok (217, v) w := by kernel_rfl
theorem er_noIs (v:Value)(xT:TypeId)(w:World):(Instr.typeAssert (.iface 100 v) xT 215 true).run prog w=.ok (.tuple #[.nilIface,.bool false]) w:=run_typeAssert_lacksB underlying215 (by kernel_rfl) (by kernel_rfl) v xT w
theorem er_noIsF (v:Value)(xT:TypeId)(w:World):(Instr.typeAssert (.iface 99 v) xT 215 true).run prog w=.ok (.tuple #[.nilIface,.bool false]) w:=run_typeAssert_lacksB underlying215 (by kernel_rfl) (by kernel_rfl) v xT w
theorem Qra (v:Value)(xT:TypeId)(w:World):(Instr.typeAssert (.iface 100 v) xT 218 true).run prog w=.ok (.tuple #[.nilIface,.bool false]) w:=run_typeAssert_lacksB underlying218 (by kernel_rfl) (by kernel_rfl) v xT w
theorem Qpt (v:Value)(xT:TypeId)(w:World):(Instr.typeAssert (.iface 100 v) xT 220 true).run prog w=.ok (.tuple #[.nilIface,.bool false]) w:=run_typeAssert_lacksB underlying220 (by kernel_rfl) (by kernel_rfl) v xT w
theorem er_noAs (v:Value)(xT:TypeId)(w:World):(Instr.typeAssert (.iface 100 v) xT 225 true).run prog w=.ok (.tuple #[.nilIface,.bool false]) w:=run_typeAssert_lacksB underlying225 (by kernel_rfl) (by kernel_rfl) v xT w
theorem Qna (v:Value)(xT:TypeId)(w:World):(Instr.typeAssert (.iface 99 v) xT 218 true).run prog w=.ok (.tuple #[.iface 99 v,.bool true]) w:=run_typeAssert_hasB underlying218 (by kernel_rfl) v xT w
theorem Qtf (v : Value) (w : World) : (Go.method 426 99 v "Unwrap").run Tryz.prog w = .ok (209, v) w := by kernel_rfl
theorem er_comp:(Tryz.prog.info? 100).map (·.comparable)=some true:=by kernel_rfl
theorem er_eq (a b:Int)(w:World):(binOp .eql 42 (Qpj a) (Qpj b)).run prog w=.ok (.bool (a == b)) w:=Lib.run_eql_iface_int w a b underlying42 er_comp underlying100
theorem er_ne (p:Value)(b:Int)(w:World):(binOp .eql 42 (.iface 99 p) (Qpj b)).run prog w=.ok (.bool false) w:=run_eql_iface_types (P:=prog) 99 100 p (.int .i64 b) underlying42 (by decide) w
theorem Qjz {w:World}{v:Value} {ps:List (ByteArray×Int)} {c:Int} (h:Qcp w v ps c):v=Qpj c∧ps=[]∨∃ b o u p t,v=fltV b o∧ps=p::t∧w.cell? ⟨b,o,none⟩=some (.string p.1)∧w.cell? ⟨b,o+1,none⟩=some (.int .i64 p.2)∧w.cell? ⟨b,o+2,none⟩=some u∧Qcp w u t c:=by
 cases ps with
 | nil=>exact .inl ⟨h,rfl⟩
 | cons p t=>obtain ⟨b,o,u,h1,h2,h3,h4,h5⟩:=h;exact .inr ⟨b,o,u,p,t,h1,rfl,h2,h3,h4,h5⟩
theorem Qbv {w:World}{v:Value} {ps:List (ByteArray×Int)} {c:Int} (h:Qcp w v ps c):∃ t x,v=.iface t x:=by
 rcases Qjz h with ⟨h,_⟩|⟨b,o,u,p,t,h,_⟩ <;> exact ⟨_,_,h⟩
theorem Qpq {w:World}:∀ {ps qs:List (ByteArray×Int)} {v:Value} {c d:Int},Qcp w v ps c→Qcp w v qs d→ps.length=qs.length
 | [],[],_,_,_,_,_=>rfl
 | [],_::_,_,_,_,h,g=>by obtain ⟨b,o,u,h1,_⟩:=g;unfold Qcp at h;rw [h] at h1;cases h1
 | _::_,[],_,_,_,g,h=>by obtain ⟨b,o,u,h1,_⟩:=g;unfold Qcp at h;rw [h] at h1;cases h1
 | _::_,_::_,_,_,_,h,g=>by
  obtain ⟨b,o,u,h1,_,_,h2,h3⟩:=h;obtain ⟨b',o',u',g1,_,_,g2,g3⟩:=g;rw [h1] at g1
  cases g1
  rw [h2] at g2
  cases g2
  simp [Qpq h3 g3]
noncomputable def Qjd (w:World) (v:Value):Nat:=by
 classical exact if h:∃ n c,∃ ps,Qcp w v ps c∧ps.length=n then h.choose else 0
theorem Qqc {w:World} {ps:List (ByteArray×Int)} {v:Value} {c:Int} (h:Qcp w v ps c):Qjd w v=ps.length:=by
 have hex:∃ n c,∃ ps,Qcp w v ps c∧ps.length=n:=⟨_,c,ps,h,rfl⟩;unfold Qjd;rw [dif_pos hex];obtain ⟨d,qs,g,hl⟩:=hex.choose_spec;rw [←hl];exact Qpq g h
theorem Qtb (b o:Nat)(u:Value)(w:World)(h:w.cell? ⟨b,o+2,none⟩=some u) :
 Calls prog 209 #[.pointer (some ⟨b,o,none⟩)] w fun e w'=>e=.returned u∧w'=w:=by
 go_enter func209,ntmps209
 go_wp2
 go_ret
 exact ⟨rfl,rfl⟩
set_option maxHeartbeats 1000000 in
theorem is_loop (v:Value) (ps:List (ByteArray×Int)) (c:Int) (w:World) (h:Qcp w v ps c) :
 Calls prog 81 #[v,Qpj c,.bool true] w fun e w'=>e=.returned (.bool true)∧w'=w:=by
 have nE:=er_noIs;have nF:=er_noIsF;have uF:=Qna;have mU:=Qtf;have heq:=er_eq;have hne:=er_ne;have hCL:∀ (ps:List (ByteArray×Int)) (v:Value) (c:Int),Qcp w v ps c→Qjd w v=ps.length:=fun _ _ _ h=>Qqc h
 have HCL:=Zh hCL;clear hCL;have HU:∀ (b o:Nat) (u:Value),w.cell? ⟨b,o+2,none⟩=some u→Calls prog 209 #[.pointer (some ⟨b,o,none⟩)] w fun e w'=>e=.returned u∧w'=w:=fun b o u h=>Qtb b o u w h
 have HU':=Zh HU;clear HU
 go_enter func81,ntmps81
 go_wp2
 go_loop [0] (fun i=>∃ qs,Qcp w i qs c) (fun i=>Qjd w i)
 case atStart=>exact ⟨ps,h⟩
 case round =>
  obtain ⟨qs,hq⟩:=hrel
  rcases Qjz hq with ⟨rfl,rfl⟩|⟨b,o,u,p,t,rfl,rfl,h1,h2,h3,h4⟩
  · clear hq h
    go_wp2
    go_ret
    exact ⟨rfl,rfl⟩
  · obtain ⟨tu,xu,rfl⟩:=Qbv h4
    have e1:=HCL.out _ _ _ hq;have e2:=HCL.out _ _ _ h4;have E1:=Zh e1;clear e1;have E2:=Zh e2;clear e2;have H4:=Zh h4;clear h4;have h3':=h3;clear hq h
    go_wp2_with (go_at_call 209;refine (HU'.out b o _ h3).mono ?_;rintro e w' ⟨rfl,rfl⟩)
    go_round
    case rel=>exact ⟨t,H4.out⟩
    case measure=>rw [E1.out,E2.out];simp
set_option maxHeartbeats 1000000 in
theorem errorsIs (v:Value) (ps:List (ByteArray×Int)) (c:Int) (w:World) (h:Qcp w v ps c) :
 Calls prog 43 #[v,Qpj c] w fun e w'=>e=.returned (.bool true)∧w'=w:=by
 have h10:=@run_callFunc_extern prog 80 _ ReflectliteType.typeOf func80 (by kernel_rfl) (by kernel_rfl) (by kernel_rfl) (by kernel_rfl);have h32:=@run_callFunc_extern prog 217 _ erComp func217 (by kernel_rfl) (by kernel_rfl) (by kernel_rfl) (by kernel_rfl);have tT:=Qwc;have cT:=Qnb;have mR:=Qlb;have HL:=Zh (is_loop v ps c w h);obtain ⟨tv,xv,rfl⟩:=Qbv h;clear h
 go_enter func43,ntmps43
 go_wp2_with (go_at_call 81;refine (HL.out).mono ?_;rintro e w' ⟨rfl,rfl⟩)
 go_ret
 exact ⟨rfl,rfl⟩
end Go.Proofs.YthoagdpakddbdaaGreatDoor
