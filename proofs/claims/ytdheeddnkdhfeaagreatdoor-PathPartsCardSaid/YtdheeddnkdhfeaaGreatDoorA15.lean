/- Parts of the proof: Bk2. -/
import Derived.Test.YtdheeddnkdhfeaaGreatDoorA14
namespace Go.Proofs.YtdheeddnkdhfeaaGreatDoor
open Go.RowKit Go.Proofs.Tryz
attribute [local go_sem ↓] Go.wp_at_zero Go.wp_at_succ
theorem Qpz (o i q k:Nat)(N:Qam) (ls:List (List Int)) (lb:List Int) (y:Qak) (w:World) (h:Qfy w o N.ar ls) (hl:ls[i]?=some lb) (hx:(Qaf N.ar lb)[q]?=some y) (ha:k<y.1.length) (hL:ls.length≤1000000) (hS:Qbx (Qac N.ar ls)≤1000000000) :
 Calls prog 62 #[.pointer (some ⟨o,0,none⟩),.int .i64 ((i:Int)+1),.int .i64 q,.int .i64 k,.int .i64 0] w fun e w'=>e=.returned (.int .i64 (Qiv (Qac N.ar ls) (Qaf N.ar lb) i q y k))∧Below w.heap.size w w':=by
 unfold Qiv
 by_cases h0:y.2.length=0
 · rw [if_pos h0]
   exact at_none o i q k 0 N.ar ls lb y w h hl hx ha (by omega) hL
 · rw [if_neg h0]
   exact at_ok o i q k 0 N.ar ls lb y w h hl hx ha (by omega) hL (by omega)
def ByK (w:World)(N:Qam)(l lb:List Int)(c:Nat)(x:Qak)(n1:Nat)(e:Ending)(w':World):Prop :=
 ∃ (SA:Option Addr) (sc cs cl cc:Nat) (pl starts:List Nat) (L:Nat→List Stp),e=.returned (.agg #[.int .i64 ((pl.length:Nat):Int),.slice SA n1 sc,.func (.func 158) #[] #[.pointer (some ⟨cs,0,none⟩),.pointer (some ⟨cl,0,none⟩),.pointer (some ⟨cc,0,none⟩)]]) ∧
  RdI w' SA n1 (nis starts)∧Qpl w' 158 #[.pointer (some ⟨cs,0,none⟩),.pointer (some ⟨cl,0,none⟩),.pointer (some ⟨cc,0,none⟩)] L pl.length∧Qsq N l lb c x pl L∧(∀ p,pl.length≤p→L p=[])∧pl.length≤16384∧(∀ (k s:Nat),x.1[k]?=some (s:Int)→∃ p:Nat,starts[k]?=some p∧pl[p]?=some s)∧Below w.heap.size w w'
def LLo (N:Qam)(x:Qak)(f:Nat→Option Nat)(y:Qak):List Stp:=y.2.map (fun z=>Qnm N x f z.toNat)
theorem Qjo (N:Qam)(x:Qak)(f:Nat→Option Nat)(y:Qak):(LLo N x f y).length=y.2.length:=by simp [LLo]
theorem LLo_at {N:Qam}{x:Qak}{f:Nat→Option Nat}{y:Qak}{j m:Nat} (h:y.2[j]?=some (m:Int)):(LLo N x f y)[j]?=some (Qnm N x f m):=by simp [LLo,h]
theorem Qmy {N:Qam}{x:Qak}{f:Nat→Option Nat}{y:Qak}{j m:Nat} (h:y.2[j]?=some (m:Int)):(LLo N x f y).take (j+1)=(LLo N x f y).take j ++[Qnm N x f m]:=by
 rw [List.take_add_one,LLo_at h]
 rfl
set_option maxRecDepth 100000 in
set_option maxHeartbeats 2000000 in
theorem Qvf (w:World)(g o i c:Nat)(N:Qam) (ls:List (List Int)) (l lb:List Int) (x:Qak) (A1 A2 CA:Option Addr) (n1 n2 c1 c2 NC cC:Nat) (costs:List Int) (hg:Qes w g N) (hok:Qap N) (ho:Qfy w o N.ar ls) (hP:Qaw N.vs.length ls) (hl:ls[i+1]?=some l) (hb:ls[i]?=some lb)
 (hx:(Qaf N.ar l)[c]?=some x) (h1:RdI w A1 n1 x.1) (h2:RdI w A2 n2 x.2) (hc:RdI w CA NC costs) (hNC:Qbx (Qac N.ar ls)≤NC) (hNC2:NC≤1000000000) (hcost:∀ z∈costs,0≤z∧z≤1152921504606846976)
 (hE:∀ (q:Nat) (y:Qak) (a b s t:Nat),(Qaf N.ar lb)[q]?=some y→y.1[a]?=some (s:Int)→y.2[b]?=some (t:Int)→Qfi N (Qbv lb q) s t (costs.getD (Qey (Qac N.ar ls) (Qaf N.ar lb) i q y a b) 0)) :
 Calls prog 109 #[.pointer (some ⟨g,0,none⟩),.pointer (some ⟨o,0,none⟩),.int .i64 ((i:Int)+1+1),.int .i64 c,.agg #[.slice A1 n1 c1,.slice A2 n2 c2],.slice CA NC cC] w (ByK w N l lb c x n1):=by
 have hla:=hok.la;have hlv:=hok.lv;have hLv:=hP.lvl l (Zm hl);have hBv:=hP.lvl lb (Zm hb);have hL6:ls.length≤6:=hP.l6;have hi5:(i:Int)≤5:=by have:=(Zs hl).1;omega
 obtain ⟨kq,hkq⟩:∃ kq:List Nat,nis kq=Qdb l lb (c:Int) N.vs.length:=by
  refine ⟨(Qdb l lb (c:Int) N.vs.length).map Int.toNat,?_⟩;unfold nis;rw [List.map_map];refine (List.map_congr_left (g:=id) fun z hz=>?_).trans (List.map_id _);obtain ⟨v,_,hv⟩:=(Qif hLv.len hBv.len).1 hz;have:=hBv.lo z (Zm hv);simp only [Function.comp,id];omega
 have hnk:kq.length≤N.vs.length:=by rw [←Qck,hkq];exact Qts _ _ _ _
 have hnd:kq.Nodup:=by
  rw [List.Nodup,List.pairwise_iff_getElem];intro a b ha hb' hab e;have h3:=Qwr l lb (c:Int) N.vs.length;rw [←hkq,List.pairwise_iff_getElem] at h3;have:=h3 a b (by rw [Qck];exact ha) (by rw [Qck];exact hb') hab;simp only [nis,List.getElem_map] at this;rw [e] at this;omega
 have hgk:∀ (t q:Nat),kq[t]?=some q→∃ y,(Qaf N.ar lb)[q]?=some y:=fun t q ht=>by
  have hm:(q:Int)∈Qdb l lb (c:Int) N.vs.length:=(Qrh hkq q).1 (Zm ht);obtain ⟨v,_,hv⟩:=(Qif hLv.len hBv.len).1 hm;obtain ⟨q',e,y,hy⟩:=Qic (ar:=N.ar) hBv (Zm hv);have:q=q':=by omega
  subst this;exact ⟨y,hy⟩
 have hcl:(c:Int)∈l:=Qtq hLv (by rw [←Qan N.ar l];exact (Zs hx).1);have hmm:=@run_makeMap prog;have HKD:=Zh (fun V (hV:Below w.heap.size w V)=>Qyb o i N.vs.length c N.ar ls l lb V (ho.below hV) hl hb (by omega) hLv.len hBv.len (by omega) hcl);have HGT:=Zh (fun V (hV:Below w.heap.size w V) (q:Nat) (y:Qak) (hy:(Qaf N.ar lb)[q]?=some y)=>Qgc o i q N.ar ls lb y V (ho.below hV) hb (by omega) hy (by omega));have HAT:=Zh (fun V (hV:Below w.heap.size w V) (q k:Nat) (y:Qak) (hy:(Qaf N.ar lb)[q]?=some y) (hk:k<y.1.length)=>Qpz o i q k N ls lb y V (ho.below hV) hb hy hk (by omega) (by omega));have HG:=Zh hg;have HO:=Zh ho;have HL:=Zh (And.intro hl hb);have HX:=Zh hx;have H1:=Zh h1;have H2:=Zh h2;have HC:=Zh hc;have HKQ:=Zh hkq;have HND:=Zh hnd;have HGK:=Zh hgk;have HCO:=Zh hcost;have HE:=Zh hE;have i0:(i:Int)+1+1-1=(i:Int)+1:=by omega
 clear hg ho hl hb hx h1 h2 hc hkq hnd hgk hcost hE hcl hLv hBv
 go_enter func109,ntmps109
 go_wp2_with fail
 (refine Qae ?_;intro w1 hw1)
 have hb1:Below w.heap.size w w1:=by rw [hw1];exact Qah
 have hz1:w1.heap.size=w.heap.size+5:=by rw [hw1];simp
 have HK1:=Zh (show KdW w w1 (.slice A1 n1 c1) (.slice A2 n2 c2) (.slice CA NC cC) none 0 [] [] none 0 [] 0 (fun _=>none) from
  ⟨hb1,by rw [hw1];exact Qbh,by rw [hw1];exact Qbh,by rw [hw1];exact Qbh,by rw [hw1];exact (MpI.new' _ (by simp)).below ((Zr _ _).alloc (Zn _) _),by rw [hw1];exact Qbh,Own.nil _ _ _ _,RwG.nil _ _,.inl rfl,fun q ⟨j,_,_,_,h,_⟩=>by simp at h⟩)
 clear hw1;with_reducible refine (HKD.out w1 hb1).mono ?_
 rintro e w2 ⟨KA,kc,rfl,hkr,hklo,hb2⟩;have hkl:(Qdb l lb (c:Int) N.vs.length).length=kq.length:=by rw [←HKQ.out,Qck]
 rw [hkl] at hkr ⊢;have HKR:=Zh hkr;have HKLO:=Zh (show ∀ b,Qab KA=some b→w.heap.size+5≤b from fun b e=>by have:=hklo b e;omega)
 have HK2:=Zh (HK1.out.below hb2);have HS2:=Zh (SpI.new N lb (Qac N.ar ls) i kq);clear hkr hklo hb1 hb2 hz1 hkl HK1
 go_wp2_with fail
 go_loopw [15,38] (fun u q V=>∃ (t:Nat) (GA:Option Addr) (gc:Nat) (xs:List Value) (ys:List Qak) (SPA:Option Addr) (spc:Nat) (spots:List (Int×Nat)) (cnt:Nat) (f:Nat→Option Nat) (pl:List Nat),q=.int .i64 t∧t≤kq.length∧u=.slice GA t gc∧ys.length=t∧cnt≤pl.length ∧
  KdW w V (.slice A1 n1 c1) (.slice A2 n2 c2) (.slice CA NC cC) GA gc xs ys SPA spc spots cnt f∧SpI N lb (Qac N.ar ls) i kq (fun t' _=>t'<t) pl spots f∧RdI V KA kq.length (Qdb l lb (c:Int) N.vs.length)∧(∀ b,Qab KA=some b→w.heap.size+5≤b∧Qab SPA≠some b∧Qab GA≠some b)∧(∀ (j q:Nat),j<t→kq[j]?=some q→∃ y,ys[j]?=some y∧(Qaf N.ar lb)[q]?=some y)) (fun _ q _=>kq.length-(intOf q).toNat)
 case atStart=>exact ⟨0,none,0,[],[],none,0,[],0,_,[],by go_num,Nat.zero_le _,rfl,rfl,Zn _,HK2.out,HS2.out.gone (fun _ _ h=>h.elim) (fun t _ _ _ _ h=>by omega),HKR.out,fun b e=>⟨HKLO.out b e,(fun e=>by cases e),(fun e=>by cases e)⟩,fun j q h=>by omega⟩
 case round =>
  clear HK2 HS2 HKR;obtain ⟨t,GA,gc,xs,ys,SPA,spc,spots,cnt,f,pl,rfl,htk,rfl,hyt,hcn,hK,hS,hkr,hka,hys⟩:=hrel;obtain ⟨v0,rfl⟩:∃ v0,v0=wr:=⟨_,rfl⟩
  by_cases hlt:t<kq.length
  · obtain ⟨q,hq⟩:∃ q,kq[t]?=some q:=⟨_,Zg hlt⟩
    obtain ⟨y,hy⟩:=HGK.out t q hq;obtain ⟨kb,ko,rfl,hck⟩:=hkr.2 t _ (by rw [←HKQ.out];exact Qcd hq);have HK:=Zh hK;have HS:=Zh hS;have HKR:=Zh hkr;have HKA:=Zh hka;have HYS:=Zh hys;have HQ:=Zh hq;have HY:=Zh hy;have HYT:=Zh hyt;have j1:(0:Int)≤(t:Int):=by omega
    have j2:(t:Int)<(kq.length:Int):=by omega
    clear hK hS hkr hka hys hq hy hyt
    go_wp2_with fail
    with_reducible refine (HGT.out v0 HK.out.bel q y HY.out).mono ?_
    rintro e w3 ⟨B1,m1,d1,B2,m2,d2,rfl,ho1,ho2,hb3⟩;have HK3:=Zh (HK.out.below hb3);have HO1:=Zh ho1;have HO2:=Zh ho2;have HB3:=Zh hb3;have hm1:y.1.length=m1:=by have:=ho1.1;simpa [Qag] using this
    have hgl:=Qbi HY.out;clear ho1 ho2 hb3;obtain ⟨w4,hw4⟩:∃ w4,w4=(w3.alloc (.cells #[.slice B1 m1 d1,.slice B2 m2 d2] 135)):=⟨_,rfl⟩;obtain ⟨w5,hw5⟩:∃ w5,w5=(w4.alloc (.cells #[.slice B1 m1 d1,.slice B2 m2 d2] 135)):=⟨_,rfl⟩;have hb4:Below w3.heap.size w3 w4:=by rw [hw4];exact Qah
    have hb45:Below w4.heap.size w4 w5:=by rw [hw5];exact Qah
    have hz4:w4.heap.size=w3.heap.size+1:=by rw [hw4];simp
    have hX4:Blk w4 w3.heap.size 135 #[.slice B1 m1 d1,.slice B2 m2 d2]:=by rw [hw4];exact Blk.new _ _ _
    have hX5:=hX4.below hb45 hX4.lt;have hrd5:Rds w5 2 (some ⟨w3.heap.size+1,0,none⟩) 1 [.slice B1 m1 d1,.slice B2 m2 d2]:=by rw [hw5,←hz4];exact (Blk.new w4 135 #[.slice B1 m1 d1,.slice B2 m2 d2]).rds rfl
    have hb35:=Zb hb4 hb45;have HK5:=Zh (HK3.out.below hb35);have hown5:=HK5.out.gt.1;rw [HYT.out] at hown5;have hsz5:w.heap.size+5≤w5.heap.size:=by have:=hb35.size;have:=HK3.out.bS.lt;omega
    have HW5:=Zh (show w5=(w3.alloc (.cells #[.slice B1 m1 d1,.slice B2 m2 d2] 135)).alloc (.cells #[.slice B1 m1 d1,.slice B2 m2 d2] 135) by rw [hw5,hw4])
    have HR1:=Zh (HO1.out.below hb35);have HR2:=Zh (HO2.out.below hb35);have HX5:=Zh hX5
    have hsl:∀ u∈[Value.slice B1 m1 d1,Value.slice B2 m2 d2],u.oneCell'=true:=fun u hu=>by
     simp at hu
     rcases hu with rfl|rfl <;> rfl
    have HB35:=Zh hb35;clear hw4 hw5 hb4 hb45 hX4 hX5 hb35 hz4
    go_wp2_with (at_builtin;rw [←HW5.out];with_reducible refine Qal rfl (.tmp 48) (.tmp 50) 209 rfl 135 _ 2 48 Qte underlying209 rfl (by omega) rfl rfl hown5 hrd5 hsl (by omega) (by omega) hsz5 ?_)
    intro GA' gc' w6 ho6 hg6 hat6;have hbv:∀ q,(Qab B1=some q∨Qab B2=some q)→v0.heap.size≤q∧q<w5.heap.size:=fun q e=>e.elim (fun e=>HR1.out.lt q e) (fun e=>HR2.out.lt q e)
    have hv0:w.heap.size+5≤v0.heap.size:=by have:=HK.out.bS.lt;omega
    have hGAlt:∀ q,Qab GA=some q→q<v0.heap.size:=fun q e=>(HK.out.gt.1.lt q e).2
    have HK6:=Zh (HK5.out.gate (y:=y) HR1.out.rds.rdI HR2.out.rds.rdI (fun q e=>⟨by have:=(hbv q e).1;omega,(hbv q e).2,fun e2=>by have:=(HK.out.sp.lt q e2).2;have:=(hbv q e).1;omega,fun e2=>by have:=hGAlt q e2;have:=(hbv q e).1;omega⟩) (by rw [HYT.out];exact ho6) hg6 hat6);have hX6:=HX5.out.grown hg6 (fun e=>by have:=hGAlt _ e;have:=HB3.out.size;omega);have x6:w6.cell? ⟨w3.heap.size,0,none⟩=some (.slice B1 m1 d1):=Zq hX6;have hkb:=Qaj hck;simp only at hkb;have HKR6:=Zh (((HKR.out.below HB3.out).below HB35.out).grownN hg6 (fun q e e2=>(HKA.out q e).2.2 e2))
    have HKA6:=Zh (show ∀ b,Qab (some ⟨kb,ko,none⟩)=some b→w.heap.size+5≤b∧Qab SPA≠some b∧Qab GA'≠some b from fun b e=>by
     refine ⟨(HKA.out b e).1,(HKA.out b e).2.1,fun e2=>?_⟩
     rcases hat6 with hat|hat
     · exact (HKA.out b e).2.2 (by rw [←hat];exact e2)
     · rw [hat] at e2
       injection e2 with e2
       have e3:kb=b:=by injection e
       have:=HB3.out.size;have:=HB35.out.size;omega)
    have HS6:=Zh (HS.out.gone (D':=fun t' k'=>t'<t∨(t'=t∧k'<0)) (fun _ _ h=>.inl h) (fun t' _ _ k' _ h _ _ _=>h.elim id (fun h=>by omega)));clear hown5 hrd5 hsl hsz5 ho6 hg6 hat6 hX6 HX5 HK5 HK3 HR1 HR2 HW5 hGAlt hbv hck hkb HB35 HB3 HO1 HO2
    go_wp2_with fail
    go_loopw [55] (fun q' V=>∃ (k:Nat) (SPA:Option Addr) (spc:Nat) (spots:List (Int×Nat)) (cnt:Nat) (f:Nat→Option Nat) (pl:List Nat),q'=.int .i64 k∧k≤m1∧cnt≤pl.length ∧
     KdW w V (.slice A1 n1 c1) (.slice A2 n2 c2) (.slice CA NC cC) GA' gc' (xs ++[.slice B1 m1 d1,.slice B2 m2 d2]) (ys ++[y]) SPA spc spots cnt f∧SpI N lb (Qac N.ar ls) i kq (fun t' k'=>t'<t∨(t'=t∧k'<k)) pl spots f∧RdI V (some ⟨kb,ko,none⟩) kq.length (Qdb l lb (c:Int) N.vs.length) ∧
     (∀ b,Qab (some ⟨kb,ko,none⟩)=some b→w.heap.size+5≤b∧Qab SPA≠some b∧Qab GA'≠some b)) (fun q' _=>m1-(intOf q').toNat)
    case atStart=>exact ⟨0,_,_,_,_,_,_,by go_num,Nat.zero_le _,hcn,HK6.out,HS6.out,HKR6.out,HKA6.out⟩
    case round =>
     clear HK6 HS6 HKR6 HKA6 HK HS HKR HKA;obtain ⟨k,SPA,spc,spots,cnt,f,pl,rfl,hkm,hcn,hK,hS,hkr,hka⟩:=hrel;obtain ⟨v1,rfl⟩:∃ v1,v1=wr:=⟨_,rfl⟩
     by_cases hklt:k<m1
     · obtain ⟨hr1,_⟩:=hK.gt.last
       obtain ⟨az,haz⟩:∃ az,y.1[k]?=some az:=⟨_,Zg (by omega)⟩;obtain ⟨a,rfl⟩:=Qew HY.out haz;obtain ⟨ab,ao,rfl,hca⟩:=hr1.2 k _ haz;have hno:=hS.free HND.out HQ.out HY.out haz (by omega);have hple:=hS.le;have hspl:=hS.len
       have han:a<N.ar.length:=by
        obtain ⟨z,hz,_⟩:=(Qcv HY.out).1 (Zm haz);exact (Zs hz).1
       have hS2:=hS.push HQ.out HY.out haz hno;have HS2:=Zh (hS2.gone (D':=fun t' k'=>t'<t∨(t'=t∧k'<k+1)) (fun t' k' h=>by omega) (fun t' _ _ k' _ h _ _ _=>by omega));have HK:=Zh hK;have HKR:=Zh hkr;have HKA:=Zh hka;have hmap:=hK.map;have xs4:v1.cell? ⟨w.heap.size+1+1+1+1,0,none⟩=some (.slice SPA spots.length spc):=Zq hK.bS;have hkv:=hkr.1;have q1:(0:Int)≤(k:Int):=by omega
       have q2:(k:Int)<(m1:Int):=by omega
       have HSPL:=Zh hspl;clear hr1 haz hno hS hS2 hK hkr hka hspl
       go_wp2_with (at_mapUpdate;with_reducible refine Qjv rfl _ _ _ rfl a spots.length rfl hmap (by omega) rfl rfl (by omega) (by have:=HSPL.out;omega) ?_)
       intro w7 hm7 hg7;rw [HSPL.out] at hm7;have HK7:=Zh (HK.out.upd hm7 hg7);have x7:w7.cell? ⟨w.heap.size+1+1+1+1,0,none⟩=some (.slice SPA spots.length spc):=Zq HK7.out.bS;have HKR7:=Zh (HKR.out.grownN hg7 (fun q e e2=>by have:=(HKA.out q e).1;injection e2 with e2;omega));clear hm7 hg7 hmap xs4
       go_wp2_with fail
       have eW:IntKind.i64.wrap ((i:Int)+1)=(i:Int)+1:=IntWalk.i64_in _ (by omega);refine Qbl 11 (S:=fun V=>V.cell? ⟨w.heap.size+1+1+1+1,0,none⟩=some (.slice SPA spots.length spc)) (by kernel_rfl) x7 (fun _=>?_);refine tkK 0 64 (h:=⟨_,tv,?_⟩);simp only [pE,List.set];refine tkF 1 65 (h:=⟨_,tv,?_⟩);simp only [pE,List.set];refine tkF 2 66 (h:=⟨_,tv,?_⟩);simp only [pE,List.set];refine tkF 3 67 (h:=⟨_,tv,?_⟩);simp only [pE,List.set];refine tkF 4 68 (h:=⟨_,tv,?_⟩);simp only [pE,List.set];refine tkF 5 69 (h:=⟨_,tv,?_⟩);simp only [pE,List.set];refine tkF 7 71 (h:=⟨_,tv,?_⟩);simp only [pE,List.set];refine Qbs (i:=6) (by kernel_rfl) (by rfl) rfl (fun K hK=>?_);go_simp;clear eW;with_reducible refine (HAT.out w7.drew HK7.out.bel.drew q k y HY.out (by omega)).mono ?_
       rintro e w8 ⟨rfl,hb8⟩;have hb78:Below w7.heap.size w7 w8:=(Zr _ _).drew.trans hb8;have HK8:=Zh (HK7.out.below hb78);have HKR8:=Zh (HKR7.out.below hb78);have x8:=Zc hb78 (Zn _) x7;clear hb8 hb78;obtain ⟨fi,hfi⟩:∃ fi,fi=Qiv (Qac N.ar ls) (Qaf N.ar lb) i q y k:=⟨_,rfl⟩;have HFI:=Zh hfi;rw [←hfi];clear hfi;go_simp;refine hK.out _ _ x8 (fun _=>?_);clear hK K;refine tkF 8 72 (h:=⟨_,tv,?_⟩);simp only [pE,List.set];obtain ⟨w9,hw9⟩:∃ w9,w9=w8.alloc (.cells #[.int .i64 fi,.int .i64 (t:Nat)] 274):=⟨_,rfl⟩;have hb9:Below w8.heap.size w8 w9:=by rw [hw9];exact Qah
       have HK9:=Zh (HK8.out.below hb9);have HKR9:=Zh (HKR8.out.below hb9);have x9:=Zc hb9 (Zn _) x8;have hrd9:Rds w9 2 (some ⟨w8.heap.size,0,none⟩) 1 [.int .i64 fi,.int .i64 (t:Nat)]:=by rw [hw9];exact (Blk.new w8 274 #[.int .i64 fi,.int .i64 (t:Nat)]).rds rfl
       have hown9:=HK9.out.sp;have hsz9:w.heap.size+5≤w9.heap.size:=by have:=HK9.out.bS.lt;omega
       have h2o:∀ u∈[Value.int .i64 fi,Value.int .i64 (t:Nat)],u.oneCell'=true:=fun u hu=>by
        simp at hu
        rcases hu with rfl|rfl <;> rfl
       refine Qbs (i:=9) (by kernel_rfl) (by rfl) rfl (fun K hK=>?_);go_simp;rw [←hw9];refine hK.out _ _ x9 (fun _=>?_);clear hK K hb9 hw9 x8;refine Qbs (i:=10) (by kernel_rfl) (by rfl) rfl (fun K hK=>?_);with_reducible refine Qay (some 74) rfl rfl (.tmp 64) (.tmp 73) 271 rfl 274 _ 2 16 infoSpot underlying271 rfl (by omega) rfl rfl hown9 hrd9 h2o (by have:=HSPL.out;omega) (by have:=HSPL.out;omega) hsz9 ?_
       intro SPA' spc' w10 ho10 hg10 hat10;have hsb:=HK9.out.bS.grown hg10 (fun e=>by have:=(HK9.out.sp.lt _ e).1;omega);have x10:w10.cell? ⟨w.heap.size+1+1+1+1,0,none⟩=some (.slice SPA spots.length spc):=Zq hsb;have f10:=hsb.frozen 0;have HK10:=Zh (HK9.out.spot fi t ho10 hg10 hat10);have HKR10:=Zh (HKR9.out.grownN hg10 (fun q e e2=>(HKA.out q e).2.1 e2))
       have HKA10:=Zh (show ∀ b,Qab (some ⟨kb,ko,none⟩)=some b→w.heap.size+5≤b∧Qab SPA'≠some b∧Qab GA'≠some b from fun b e=>by
        refine ⟨(HKA.out b e).1,fun e2=>?_,(HKA.out b e).2.2⟩
        rcases hat10 with hat|hat
        · exact (HKA.out b e).2.1 (by rw [←hat];exact e2)
        · rw [hat] at e2
          injection e2 with e2
          have e3:kb=b:=by injection e
          obtain ⟨_,_,e4,hc⟩:=HKR9.out.2 0 _ (Zg (by have:=HKR9.out.1;omega));have:=Qaj hc;simp only at this
          injection e4 with e4
          injection e4 with e4
          omega)
       clear hown9 hrd9 h2o hsz9 ho10 hg10 hat10 hsb;refine hK.out _ _ x10 (fun _=>?_);clear hK K;simp only [Act.put,Yi,Yj,Yk];refine Qby (k:=11) (by kernel_rfl) rfl (fun K hK=>?_);go_simp;refine hK.out _ _ ?_;clear hK K;refine Qbt (by kernel_rfl) ?_ _;have HKRF:=Zh (HKR10.out.far (g:=w.heap.size+1+1+1+1) (i:=0) (.slice SPA' (spots.length+1) spc') (fun e=>by have:=(HKA10.out _ e).1;omega));rw [←HFI.out] at HS2
       go_wp2_with fail
       go_roundw
       case rel=>exact ⟨k+1,SPA',spc',_,cnt+1,_,pl ++[a],by go_num,by omega,by rw [Yp,List.length_singleton];omega,HK10.out,HS2.out,HKRF.out,HKA10.out⟩
       case measure=>simp [intOf];omega
     · obtain rfl:m1=k:=by omega
       have HKf:=Zh hK
       have HSf:=Zh (hS.gone (D':=fun t' _=>t'<t+1) (fun t' _ h=>by omega) (fun t' q' y' k' a h e1 e2 e3=>by
        rcases Nat.lt_or_ge t' t with h3|h3
        · exact .inl h3
        · have e:t'=t:=by omega
          subst e;refine .inr ⟨rfl,?_⟩;rw [HQ.out] at e1
          cases e1
          rw [HY.out] at e2
          cases e2
          rw [←hm1];exact (Zs e3).1))
       have HKRf:=Zh hkr;have HKAf:=Zh hka
       have HYSf:=Zh (show ∀ (j q:Nat),j<t+1→kq[j]?=some q→∃ z,(ys ++[y])[j]?=some z∧(Qaf N.ar lb)[q]?=some z from fun j q' hj hq'=>by
        rcases Nat.lt_or_ge j t with h3|h3
        · obtain ⟨z,hz,hz2⟩:=HYS.out j q' h3 hq'
          exact ⟨z,by rw [Yc (Zs hz).1];exact hz,hz2⟩
        · have e:j=t:=by omega
          subst e;rw [HQ.out] at hq'
          cases hq'
          exact ⟨y,by rw [Yb (by rw [HYT.out];exact Zn _),HYT.out,Yy];rfl,HY.out⟩)
       clear hK hS hkr hka
       go_wp2_with fail
       go_roundw
       case rel=>exact ⟨t+1,GA',gc',_,ys ++[y],SPA,spc,spots,cnt,f,pl,by go_num,by omega,rfl,by rw [Yp,List.length_singleton,HYT.out],hcn,HKf.out,HSf.out,HKRf.out,HKAf.out,HYSf.out⟩
       case measure=>simp [intOf];omega
  · obtain rfl:kq.length=t:=by omega
    have HK:=Zh hK;have HS:=Zh (hS.gone (D':=fun _ _=>True) (fun _ _ _=>trivial) (fun t' _ _ _ _ _ h _ _=>(Zs h).1));have HYS:=Zh hys;have HYT:=Zh hyt
    have hmkS:∀ W,(Instr.makeSlice 266 (.int .i64 (kq.length:Int)) (.int .i64 (kq.length:Int))).run prog W=.ok (.slice (some ⟨W.heap.size,0,none⟩) kq.length kq.length) (W.alloc (.cells (Qbp (.slice none 0 0) kq.length) 267)) :=
     fun W=>Qfb (P:=prog) 266 267 (.slice none 0 0) 24 Qpo underlying266 rfl kq.length (by omega) (by omega) .i64 .i64 W
    clear hK hS hkr hka hys hyt
    go_wp2_with fail
    (refine Qai ?_;intro v1 hv1)
    have hb1:Below v0.heap.size v0 v1:=by rw [hv1];exact ((Zr _ _).alloc (Zn _) _).alloc (by simp) _
    have hT1:Blk v1 (v0.heap.size+1) 266 #[.slice (some ⟨v0.heap.size,0,none⟩) kq.length kq.length]:=by rw [hv1];exact Qbh
    have hI1:IkS v1 (v0.heap.size+2) v0.heap.size kq.length (List.replicate kq.length []):=IkS.start (by omega) (by rw [hv1];exact Qbh);clear hv1 hmkS
    go_loopw [82] (fun q' V=>∃ (t:Nat) (rows:List (List Stp)),q'=.int .i64 t∧t≤kq.length∧Below v0.heap.size v0 V∧Blk V (v0.heap.size+1) 266 #[.slice (some ⟨v0.heap.size,0,none⟩) kq.length kq.length]∧IkS V (v0.heap.size+2) v0.heap.size kq.length rows ∧
     (∀ (j q:Nat) (y:Qak),j<t→kq[j]?=some q→(Qaf N.ar lb)[q]?=some y→rows[j]?=some (LLo N x f y))∧(∀ j,t≤j→j<kq.length→rows[j]?=some [])) (fun q' _=>kq.length-(intOf q').toNat)
    case atStart=>exact ⟨0,_,by go_num,Nat.zero_le _,hb1,hT1,hI1,fun j q y h=>by omega,fun j _ h=>by rw [List.getElem?_replicate,if_pos h]⟩
    case round =>
     clear hb1 hT1 hI1;obtain ⟨t,rows,rfl,htk,hb,hT,hI,hdn,hrest⟩:=hrel;obtain ⟨v2,rfl⟩:∃ v2,v2=wr:=⟨_,rfl⟩
     by_cases htlt:t<kq.length
     · obtain ⟨q,hq⟩:∃ q,kq[t]?=some q:=⟨_,Zg htlt⟩
       obtain ⟨y,hyy,hy⟩:=HYS.out t q htlt hq;have hgt:=HK.out.gt;obtain ⟨B1,m1,d1,B2,m2,d2,k1,k2,k3,k4,_⟩:=hgt.2.2 t y hyy;obtain ⟨gb,go_,hGA,c1'⟩:=hgt.1.rds.2 _ _ k1;obtain ⟨gb',go',e',c2'⟩:=hgt.1.rds.2 _ _ k2;rw [hGA] at e'
       cases e'
       subst hGA;have c1v:=Zc hb (Zn _) c1';have c2v:v2.cell? ⟨gb,go_+t*2+1,none⟩=some (.slice B2 m2 d2):=by rw [Nat.add_assoc];exact Zc hb (Zn _) c2'
       have HR2:=Zh k4;have hm2:y.2.length=m2:=k4.1;have hgl:=Qbi hy;have HB:=Zh hb;have HT:=Zh hT;have HI:=Zh hI;have HDN:=Zh hdn;have HRE:=Zh hrest;have HQ:=Zh hq;have HY:=Zh hy;have j1:(0:Int)≤(t:Int):=by omega
       have j2:(t:Int)<(kq.length:Int):=by omega
       clear hb hT hI hdn hrest hq hy hyy hgt k1 k2 k3 k4 c1' c2'
       go_wp2_with fail
       (refine Qai ?_;intro v3 hv3)
       have hb3:Below v2.heap.size v2 v3:=by rw [hv3];exact (Zr _ _).alloc (Zn _) _
       have HRL:=Zh (show rows.length=kq.length from HI.out.1)
       have hr0:=HRE.out t (Zn _) htlt
       have hset:rows.set t ((LLo N x f y).take 0)=rows:=by
        obtain ⟨hlt,e⟩:=Zs hr0;rw [List.take_zero,←e];exact List.set_getElem_self hlt
       have hI3:IkS v3 (v0.heap.size+2) v0.heap.size kq.length (rows.set t ((LLo N x f y).take 0)):=by rw [hset];exact HI.out.below hb3
       have hB3:=Zb HB.out hb3;have hT3:=HT.out.below hb3 HT.out.lt;clear hv3 hb3 hr0 hset c1v c2v
       go_loopw [90] (fun q' V=>∃ j:Nat,q'=.int .i64 j∧j≤m2∧Below v0.heap.size v0 V∧Blk V (v0.heap.size+1) 266 #[.slice (some ⟨v0.heap.size,0,none⟩) kq.length kq.length]∧IkS V (v0.heap.size+2) v0.heap.size kq.length (rows.set t ((LLo N x f y).take j))) (fun q' _=>m2-(intOf q').toNat)
       case atStart=>exact ⟨0,by go_num,Nat.zero_le _,hB3,hT3,hI3⟩
       case round =>
        clear hB3 hT3 hI3;obtain ⟨j,rfl,hjm,hb,hT,hI⟩:=hrel;obtain ⟨v4,rfl⟩:∃ v4,v4=wr:=⟨_,rfl⟩
        by_cases hjlt:j<m2
        · obtain ⟨mz,hmz⟩:∃ mz,y.2[j]?=some mz:=⟨_,Zg (by omega)⟩
          obtain ⟨m,rfl⟩:=Qcz HY.out hmz;obtain ⟨ob,oo,rfl,hcm⟩:=(HR2.out.below hb).2 j _ hmz;obtain ⟨z,hz,_,_⟩:=(Qbo HY.out).1 (Zm hmz);have hmn:=(Zs hz).1;have hbw:=Zb HK.out.bel hb;have HPL:=Zh (Qdr A2 n2 c2 x.2 m v4 (H2.out.below hbw) (Qek HX.out) (by have:=Qbi HX.out;have:=H2.out.1;omega));have hX0:=HK.out.bX.below hb HK.out.bX.lt;have x01:v4.cell? ⟨w.heap.size,1,none⟩=some (.slice A2 n2 c2):=Zq hX0;have HMZ:=Zh hmz;have HZ:=Zh hz;have HB4:=Zh hb;have HT4:=Zh hT;have HI4:=Zh hI;have q1:(0:Int)≤(j:Int):=by omega
          have q2:(j:Int)<(m2:Int):=by omega
          clear hmz hz hb hT hI hX0 hbw
          go_wp2_with fail
          with_reducible refine HPL.out.mono ?_
          rintro e v5 ⟨rfl,hb5⟩;have HB5:=Zh hb5;clear HPL hb5 x01 hcm
          by_cases hm:(m:Int)∈x.2
          · obtain ⟨k,hk,hkx⟩:=Qha hm
            have HRW:=Zh (show Qnm N x f m=(0,(k:Int),0) by unfold Qnm;rw [hk,if_pos (by omega)])
            rw [hk];have hk0:(0:Int)≤(k:Int):=by omega
            clear hk hkx hm
            go_wp2_with fail
            (refine Qai ?_;intro v6 hv6)
            have hb6:Below v5.heap.size v5 v6:=by rw [hv6];exact (Zr _ _).alloc (Zn _) _
            have HX9:=Zh (show Blk v6 v5.heap.size 269 #[.int .i64 0,.int .i64 (k:Nat),.int .i64 0] by rw [hv6];exact Blk.new _ _ _)
            have hb46:=Zb HB5.out hb6;have HI9:=Zh (HI4.out.below hb46);have HB9:=Zh (Zb HB4.out hb46);have HT9:=Zh (HT4.out.below hb46 HT4.out.lt)
            have HBR:=Zh (show ∀ RA n c,v6.cell? ⟨v0.heap.size,t,none⟩=some (.slice RA n c)→Qab RA≠some v5.heap.size from fun RA n c e e2=>by
             obtain ⟨RA0,rc0,l0,_,hc0,_,ho0⟩:=HI4.out.row (u:=t) htlt;have e3:=Zc hb46 (Zn _) hc0;rw [e3] at e
             cases e
             have:=(ho0.lt _ e2).2;have:=HB5.out.size;omega)
            clear hv6 hb6 hb46;have hI9:=HI9.out;obtain ⟨RA,rc,rl,hrl,hrc,hrf,hro⟩:=hI9.row (u:=t) htlt
            have hrl2:rl=(LLo N x f y).take j:=by
             exact Kce
            subst hrl2;obtain ⟨rn,hrn⟩:∃ rn,rn=((LLo N x f y).take j).length:=⟨_,rfl⟩;have hrll:rn≤16384:=by rw [hrn,Yw];omega
            rw [←hrn] at hrc hro;have HRN:=Zh hrn;clear hrn;have hbl:=HB9.out.size;have x21:v6.cell? ⟨v0.heap.size+1,0,none⟩=some (.slice (some ⟨v0.heap.size,0,none⟩) kq.length kq.length):=Zq HT9.out;have y0:v6.cell? ⟨v5.heap.size,0,none⟩=some (.int .i64 0):=Zq HX9.out;have y1:v6.cell? ⟨v5.heap.size,1,none⟩=some (.int .i64 ((k:Nat):Int)):=Zq HX9.out;have y2:v6.cell? ⟨v5.heap.size,2,none⟩=some (.int .i64 0):=Zq HX9.out;have hRAlt:∀ g,Qab RA=some g→v0.heap.size+2≤g∧g≠v5.heap.size:=fun g e=>⟨(hro.lt g e).1,fun e2=>by subst e2;exact HBR.out RA _ _ hrc e⟩
            refine Qbl 10 (S:=fun V=>V.cell? ⟨v0.heap.size+1,0,none⟩=some (.slice (some ⟨v0.heap.size,0,none⟩) kq.length kq.length)∧V.cell? ⟨v0.heap.size,t,none⟩=some (.slice RA rn rc)∧V.cell? ⟨v5.heap.size,0,none⟩=some (.int .i64 0)∧V.cell? ⟨v5.heap.size,1,none⟩=some (.int .i64 ((k:Nat):Int))∧V.cell? ⟨v5.heap.size,2,none⟩=some (.int .i64 0)) (by kernel_rfl) ⟨x21,hrc,y0,y1,y2⟩ (fun _=>?_);refine tkK 0 117 (h:=⟨_,tv,?_⟩);simp only [pE,List.set];refine tkF 1 118 (h:=⟨_,tv,?_⟩);simp only [pE,List.set];refine tkK 2 119 (h:=⟨_,tv,?_⟩);simp only [pE,List.set];refine tkF 3 120 (h:=⟨_,tv,?_⟩);simp only [pE,List.set];refine tkF 4 121 (h:=⟨_,tv,?_⟩);simp only [pE,List.set];refine tkK 5 122 (h:=⟨_,tv,?_⟩);simp only [pE,List.set];refine tkK 6 123 (h:=⟨_,tv,?_⟩);simp only [pE,List.set];obtain ⟨w9,hw9⟩:∃ w9,w9=(v6.alloc (.cells #[.int .i64 0,.int .i64 ((k:Nat):Int),.int .i64 0] 269)).drew:=⟨_,rfl⟩;have hb9:Below v6.heap.size v6 w9:=by rw [hw9];exact ((Zr _ _).alloc (Zn _) _).drew
            have hI9':=hI9.below hb9;have hT9':=HT9.out.below hb9 HT9.out.lt;have hX9':=HX9.out.below hb9 HX9.out.lt;have hrd9:Rds w9 3 (some ⟨v6.heap.size,0,none⟩) 1 [.int .i64 0,.int .i64 ((k:Nat):Int),.int .i64 0]:=by rw [hw9];exact ((Blk.new v6 269 #[.int .i64 0,.int .i64 ((k:Nat):Int),.int .i64 0]).drew).rds rfl
            have hro9:=hro.below hb9;have hrc9:=Zc hb9 (Zn _) hrc;have hsz9:v0.heap.size+2≤w9.heap.size:=by have:=hT9'.lt;omega
            refine Qbs (i:=7) (by kernel_rfl) (by rfl) rfl (fun K hK=>?_);go_simp;rw [←hw9];refine hK.out _ _ ⟨Zc hb9 (Zn _) x21,hrc9,Zc hb9 (Zn _) y0,Zc hb9 (Zn _) y1,Zc hb9 (Zn _) y2⟩ (fun _=>?_);clear hK K hw9;refine Qbs (i:=8) (by kernel_rfl) (by rfl) rfl (fun K hK=>?_);with_reducible refine Qay (some 125) rfl rfl (.tmp 122) (.tmp 124) 267 rfl 269 _ 3 24 Qgm underlying267 rfl (by omega) rfl rfl hro9 hrd9 (Qds _ _ _) (by omega) (by omega) hsz9 ?_
            intro RA' rc' w10 ho10 hg10 hat10;have hT10:=hT9'.grown hg10 (fun e=>by have:=(hRAlt _ e).1;omega);have hX10:=hX9'.grown hg10 (fun e=>(hRAlt _ e).2 rfl);have z21:w10.cell? ⟨v0.heap.size+1,0,none⟩=some (.slice (some ⟨v0.heap.size,0,none⟩) kq.length kq.length):=Zq hT10
            obtain ⟨zv,zc,zf⟩:∃ v,w10.cell? ⟨v0.heap.size,t,none⟩=some (.slice RA rn rc)∧w10.frozen? ⟨v0.heap.size,t,none⟩=false∧v=0:=by
             exact Kba
            refine hK.out _ _ ⟨z21,zc,Zq hX10,Zq hX10,Zq hX10⟩ (fun _=>?_);clear hK K;simp only [Act.put,Yi,Yj,Yk];have hIF:=hI9'.push (s:=(0,((k:Nat):Int),0)) hrl (by rw [←HRN.out];exact hrc9) (by rw [←HRN.out];exact ho10) hg10 hat10;have hb10:Below v0.heap.size v0 (w10.setCell ⟨v0.heap.size,t,none⟩ (.slice RA' (rn+1) rc')):=Zi ((Zb HB9.out hb9).grown hg10 (by omega) (fun g e=>by have:=(hRAlt g e).1;omega)) (Zn _);have hT11:=hT10.far_ (b:=v0.heap.size) (o:=t) (by omega) (.slice RA' (rn+1) rc');rw [List.set_set,←HRN.out] at hIF;have HIF:=Zh hIF;have HBF:=Zh hb10;have HTF:=Zh hT11;clear hIF hb10 hT11 ho10 hg10 hat10 hI9' hT9' hX9' hrd9 hro9 hrc9 hsz9 hT10 hX10 hI9 hrl hrc hrf hro hRAlt hb9;refine tkF 9 126 (h:=⟨_,tv,?_⟩);simp only [pE,List.set];refine Qby (k:=10) (by kernel_rfl) rfl (fun K hK=>?_);go_simp;refine hK.out _ _ ?_;clear hK K;refine Qbt (by kernel_rfl) ?_ _
            go_wp2_with fail
            go_roundw
            case rel=>exact ⟨j+1,by go_num,by omega,HBF.out,HTF.out,by rw [Qmy HMZ.out,HRW.out];exact HIF.out⟩
            case measure=>simp [intOf];omega
          · rw [Qct hm]
            obtain ⟨v6,hv6⟩:∃ v6,v6=v5.alloc (.cells #[.int .i64 0,.int .i64 (-1),.int .i64 0] 269):=⟨_,rfl⟩;have hb6:Below v5.heap.size v5 v6:=by rw [hv6];exact (Zr _ _).alloc (Zn _) _
            have hX6:Blk v6 v5.heap.size 269 #[.int .i64 0,.int .i64 (-1),.int .i64 0]:=by rw [hv6];exact Blk.new _ _ _
            have hmap6:=((HK.out.map.below HB4.out).below HB5.out).below hb6;have s0:v6.cell? ⟨v5.heap.size,0,none⟩=some (.int .i64 0):=Zq hX6;have s2:v6.cell? ⟨v5.heap.size,2,none⟩=some (.int .i64 0):=Zq hX6;have sf:=fun o=>hX6.frozen o
            have HV6:=Zh hv6;have HX6:=Zh hX6;have HB6:=Zh hb6;have hzw:=(Qbr HZ.out).2.2;have HZW:=Zh hzw;have HWE:=Zh (Qgj g m N z v6 (HG.out.below (Zb (Zb (Zb HK.out.bel HB4.out) HB5.out) hb6)) HZ.out);clear hv6 hX6 hb6 hzw
            cases hf:f m with
            | some p =>
             have HRW:=Zh (show Qnm N x f m=(p,(-1:Int),z.2.2) by unfold Qnm;rw [Qct hm,if_neg (by omega),hf,HZW.out];rfl)
             clear hm
             go_wp2_with (at_lookup;rw [←HV6.out];with_reducible refine Qji rfl _ _ rfl m rfl hmap6 rfl (by omega) ?_)
             with_reducible refine HWE.out.mono ?_
             rintro e w' ⟨rfl,rfl⟩;have HBX:=Zh (show Below v5.heap.size v5 ((v6.setCell ⟨v5.heap.size,0,none⟩ (.int .i64 (p:Nat))).setCell ⟨v5.heap.size,2,none⟩ (.int .i64 z.2.2)) from Zi (Zi HB6.out (Zn _)) (Zn _))
             have HXX:=Zh (show Blk ((v6.setCell ⟨v5.heap.size,0,none⟩ (.int .i64 (p:Nat))).setCell ⟨v5.heap.size,2,none⟩ (.int .i64 z.2.2)) v5.heap.size 269 #[.int .i64 (p:Nat),.int .i64 (-1),.int .i64 z.2.2] from (HX6.out.set_ 0 _).set_ 2 _)
             clear hmap6
             go_wp2_with fail
             (refine Qai ?_;intro v7 hv7)
             have hb57:Below v5.heap.size v5 v7:=by rw [hv7];exact HBX.out
             have HX9:=Zh (show Blk v7 v5.heap.size 269 #[.int .i64 (p:Nat),.int .i64 (-1),.int .i64 z.2.2] by rw [hv7];exact HXX.out)
             have hb46:=Zb HB5.out hb57;have HI9:=Zh (HI4.out.below hb46);have HB9:=Zh (Zb HB4.out hb46);have HT9:=Zh (HT4.out.below hb46 HT4.out.lt)
             have HBR:=Zh (show ∀ RA n c,v7.cell? ⟨v0.heap.size,t,none⟩=some (.slice RA n c)→Qab RA≠some v5.heap.size from fun RA n c e e2=>by
              obtain ⟨RA0,rc0,l0,_,hc0,_,ho0⟩:=HI4.out.row (u:=t) htlt;have e3:=Zc hb46 (Zn _) hc0;rw [e3] at e
              cases e
              have:=(ho0.lt _ e2).2;have:=HB5.out.size;omega)
             clear hv7 hb57 hb46;clear s0 s2 sf;have hI9:=HI9.out;obtain ⟨RA,rc,rl,hrl,hrc,hrf,hro⟩:=hI9.row (u:=t) htlt
             have hrl2:rl=(LLo N x f y).take j:=by
              exact Kce
             subst hrl2;obtain ⟨rn,hrn⟩:∃ rn,rn=((LLo N x f y).take j).length:=⟨_,rfl⟩;have hrll:rn≤16384:=by rw [hrn,Yw];omega
             rw [←hrn] at hrc hro;have HRN:=Zh hrn;clear hrn;have hbl:=HB9.out.size;have x21:v7.cell? ⟨v0.heap.size+1,0,none⟩=some (.slice (some ⟨v0.heap.size,0,none⟩) kq.length kq.length):=Zq HT9.out;have y0:v7.cell? ⟨v5.heap.size,0,none⟩=some (.int .i64 ((p:Nat):Int)):=Zq HX9.out;have y1:v7.cell? ⟨v5.heap.size,1,none⟩=some (.int .i64 (-1)):=Zq HX9.out;have y2:v7.cell? ⟨v5.heap.size,2,none⟩=some (.int .i64 z.2.2):=Zq HX9.out;have hRAlt:∀ g,Qab RA=some g→v0.heap.size+2≤g∧g≠v5.heap.size:=fun g e=>⟨(hro.lt g e).1,fun e2=>by subst e2;exact HBR.out RA _ _ hrc e⟩
             refine Qbl 10 (S:=fun V=>V.cell? ⟨v0.heap.size+1,0,none⟩=some (.slice (some ⟨v0.heap.size,0,none⟩) kq.length kq.length)∧V.cell? ⟨v0.heap.size,t,none⟩=some (.slice RA rn rc)∧V.cell? ⟨v5.heap.size,0,none⟩=some (.int .i64 ((p:Nat):Int))∧V.cell? ⟨v5.heap.size,1,none⟩=some (.int .i64 (-1))∧V.cell? ⟨v5.heap.size,2,none⟩=some (.int .i64 z.2.2)) (by kernel_rfl) ⟨x21,hrc,y0,y1,y2⟩ (fun _=>?_);refine tkK 0 117 (h:=⟨_,tv,?_⟩);simp only [pE,List.set];refine tkF 1 118 (h:=⟨_,tv,?_⟩);simp only [pE,List.set];refine tkK 2 119 (h:=⟨_,tv,?_⟩);simp only [pE,List.set];refine tkF 3 120 (h:=⟨_,tv,?_⟩);simp only [pE,List.set];refine tkF 4 121 (h:=⟨_,tv,?_⟩);simp only [pE,List.set];refine tkK 5 122 (h:=⟨_,tv,?_⟩);simp only [pE,List.set];refine tkK 6 123 (h:=⟨_,tv,?_⟩);simp only [pE,List.set];obtain ⟨w9,hw9⟩:∃ w9,w9=(v7.alloc (.cells #[.int .i64 ((p:Nat):Int),.int .i64 (-1),.int .i64 z.2.2] 269)).drew:=⟨_,rfl⟩;have hb9:Below v7.heap.size v7 w9:=by rw [hw9];exact ((Zr _ _).alloc (Zn _) _).drew
             have hI9':=hI9.below hb9;have hT9':=HT9.out.below hb9 HT9.out.lt;have hX9':=HX9.out.below hb9 HX9.out.lt;have hrd9:Rds w9 3 (some ⟨v7.heap.size,0,none⟩) 1 [.int .i64 ((p:Nat):Int),.int .i64 (-1),.int .i64 z.2.2]:=by rw [hw9];exact ((Blk.new v7 269 #[.int .i64 ((p:Nat):Int),.int .i64 (-1),.int .i64 z.2.2]).drew).rds rfl
             have hro9:=hro.below hb9;have hrc9:=Zc hb9 (Zn _) hrc;have hsz9:v0.heap.size+2≤w9.heap.size:=by have:=hT9'.lt;omega
             refine Qbs (i:=7) (by kernel_rfl) (by rfl) rfl (fun K hK=>?_);go_simp;rw [←hw9];refine hK.out _ _ ⟨Zc hb9 (Zn _) x21,hrc9,Zc hb9 (Zn _) y0,Zc hb9 (Zn _) y1,Zc hb9 (Zn _) y2⟩ (fun _=>?_);clear hK K hw9;refine Qbs (i:=8) (by kernel_rfl) (by rfl) rfl (fun K hK=>?_);with_reducible refine Qay (some 125) rfl rfl (.tmp 122) (.tmp 124) 267 rfl 269 _ 3 24 Qgm underlying267 rfl (by omega) rfl rfl hro9 hrd9 (Qds _ _ _) (by omega) (by omega) hsz9 ?_
             intro RA' rc' w10 ho10 hg10 hat10;have hT10:=hT9'.grown hg10 (fun e=>by have:=(hRAlt _ e).1;omega);have hX10:=hX9'.grown hg10 (fun e=>(hRAlt _ e).2 rfl);have z21:w10.cell? ⟨v0.heap.size+1,0,none⟩=some (.slice (some ⟨v0.heap.size,0,none⟩) kq.length kq.length):=Zq hT10
             obtain ⟨zv,zc,zf⟩:∃ v,w10.cell? ⟨v0.heap.size,t,none⟩=some (.slice RA rn rc)∧w10.frozen? ⟨v0.heap.size,t,none⟩=false∧v=0:=by
              exact Kba
             refine hK.out _ _ ⟨z21,zc,Zq hX10,Zq hX10,Zq hX10⟩ (fun _=>?_);clear hK K;simp only [Act.put,Yi,Yj,Yk];have hIF:=hI9'.push (s:=(p,(-1),z.2.2)) hrl (by rw [←HRN.out];exact hrc9) (by rw [←HRN.out];exact ho10) hg10 hat10;have hb10:Below v0.heap.size v0 (w10.setCell ⟨v0.heap.size,t,none⟩ (.slice RA' (rn+1) rc')):=Zi ((Zb HB9.out hb9).grown hg10 (by omega) (fun g e=>by have:=(hRAlt g e).1;omega)) (Zn _);have hT11:=hT10.far_ (b:=v0.heap.size) (o:=t) (by omega) (.slice RA' (rn+1) rc');rw [List.set_set,←HRN.out] at hIF;have HIF:=Zh hIF;have HBF:=Zh hb10;have HTF:=Zh hT11;clear hIF hb10 hT11 ho10 hg10 hat10 hI9' hT9' hX9' hrd9 hro9 hrc9 hsz9 hT10 hX10 hI9 hrl hrc hrf hro hRAlt hb9;refine tkF 9 126 (h:=⟨_,tv,?_⟩);simp only [pE,List.set];refine Qby (k:=10) (by kernel_rfl) rfl (fun K hK=>?_);go_simp;refine hK.out _ _ ?_;clear hK K;refine Qbt (by kernel_rfl) ?_ _
             go_wp2_with fail
             go_roundw
             case rel=>exact ⟨j+1,by go_num,by omega,HBF.out,HTF.out,by rw [Qmy HMZ.out,HRW.out];exact HIF.out⟩
             case measure=>simp [intOf];omega
            | none =>
             have HRW:=Zh (show Qnm N x f m=(0,(-1:Int),1152921504606846976) by unfold Qnm;rw [Qct hm,if_neg (by omega),hf];rfl)
             clear hm
             go_wp2_with (at_lookup;rw [←HV6.out];with_reducible refine Qji rfl _ _ rfl m rfl hmap6 rfl (by omega) ?_)
             with_reducible refine HWE.out.mono ?_
             rintro e w' ⟨rfl,rfl⟩;have HBX:=Zh (show Below v5.heap.size v5 (((v6.setCell ⟨v5.heap.size,0,none⟩ (.int .i64 0)).setCell ⟨v5.heap.size,2,none⟩ (.int .i64 z.2.2)).setCell ⟨v5.heap.size,2,none⟩ (.int .i64 1152921504606846976)) from Zi (Zi (Zi HB6.out (Zn _)) (Zn _)) (Zn _))
             have HXX:=Zh (show Blk (((v6.setCell ⟨v5.heap.size,0,none⟩ (.int .i64 0)).setCell ⟨v5.heap.size,2,none⟩ (.int .i64 z.2.2)).setCell ⟨v5.heap.size,2,none⟩ (.int .i64 1152921504606846976)) v5.heap.size 269 #[.int .i64 0,.int .i64 (-1),.int .i64 1152921504606846976] from ((HX6.out.set_ 0 _).set_ 2 _).set_ 2 _)
             clear hmap6
             go_wp2_with fail
             (refine Qai ?_;intro v7 hv7)
             have hb57:Below v5.heap.size v5 v7:=by rw [hv7];exact HBX.out
             have HX9:=Zh (show Blk v7 v5.heap.size 269 #[.int .i64 0,.int .i64 (-1),.int .i64 1152921504606846976] by rw [hv7];exact HXX.out)
             have hb46:=Zb HB5.out hb57;have HI9:=Zh (HI4.out.below hb46);have HB9:=Zh (Zb HB4.out hb46);have HT9:=Zh (HT4.out.below hb46 HT4.out.lt)
             have HBR:=Zh (show ∀ RA n c,v7.cell? ⟨v0.heap.size,t,none⟩=some (.slice RA n c)→Qab RA≠some v5.heap.size from fun RA n c e e2=>by
              obtain ⟨RA0,rc0,l0,_,hc0,_,ho0⟩:=HI4.out.row (u:=t) htlt;have e3:=Zc hb46 (Zn _) hc0;rw [e3] at e
              cases e
              have:=(ho0.lt _ e2).2;have:=HB5.out.size;omega)
             clear hv7 hb57 hb46;clear s0 s2 sf;have hI9:=HI9.out;obtain ⟨RA,rc,rl,hrl,hrc,hrf,hro⟩:=hI9.row (u:=t) htlt
             have hrl2:rl=(LLo N x f y).take j:=by
              exact Kce
             subst hrl2;obtain ⟨rn,hrn⟩:∃ rn,rn=((LLo N x f y).take j).length:=⟨_,rfl⟩;have hrll:rn≤16384:=by rw [hrn,Yw];omega
             rw [←hrn] at hrc hro;have HRN:=Zh hrn;clear hrn;have hbl:=HB9.out.size;have x21:v7.cell? ⟨v0.heap.size+1,0,none⟩=some (.slice (some ⟨v0.heap.size,0,none⟩) kq.length kq.length):=Zq HT9.out;have y0:v7.cell? ⟨v5.heap.size,0,none⟩=some (.int .i64 0):=Zq HX9.out;have y1:v7.cell? ⟨v5.heap.size,1,none⟩=some (.int .i64 (-1)):=Zq HX9.out;have y2:v7.cell? ⟨v5.heap.size,2,none⟩=some (.int .i64 1152921504606846976):=Zq HX9.out;have hRAlt:∀ g,Qab RA=some g→v0.heap.size+2≤g∧g≠v5.heap.size:=fun g e=>⟨(hro.lt g e).1,fun e2=>by subst e2;exact HBR.out RA _ _ hrc e⟩
             refine Qbl 10 (S:=fun V=>V.cell? ⟨v0.heap.size+1,0,none⟩=some (.slice (some ⟨v0.heap.size,0,none⟩) kq.length kq.length)∧V.cell? ⟨v0.heap.size,t,none⟩=some (.slice RA rn rc)∧V.cell? ⟨v5.heap.size,0,none⟩=some (.int .i64 0)∧V.cell? ⟨v5.heap.size,1,none⟩=some (.int .i64 (-1))∧V.cell? ⟨v5.heap.size,2,none⟩=some (.int .i64 1152921504606846976)) (by kernel_rfl) ⟨x21,hrc,y0,y1,y2⟩ (fun _=>?_);refine tkK 0 117 (h:=⟨_,tv,?_⟩);simp only [pE,List.set];refine tkF 1 118 (h:=⟨_,tv,?_⟩);simp only [pE,List.set];refine tkK 2 119 (h:=⟨_,tv,?_⟩);simp only [pE,List.set];refine tkF 3 120 (h:=⟨_,tv,?_⟩);simp only [pE,List.set];refine tkF 4 121 (h:=⟨_,tv,?_⟩);simp only [pE,List.set];refine tkK 5 122 (h:=⟨_,tv,?_⟩);simp only [pE,List.set];refine tkK 6 123 (h:=⟨_,tv,?_⟩);simp only [pE,List.set];obtain ⟨w9,hw9⟩:∃ w9,w9=(v7.alloc (.cells #[.int .i64 0,.int .i64 (-1),.int .i64 1152921504606846976] 269)).drew:=⟨_,rfl⟩;have hb9:Below v7.heap.size v7 w9:=by rw [hw9];exact ((Zr _ _).alloc (Zn _) _).drew
             have hI9':=hI9.below hb9;have hT9':=HT9.out.below hb9 HT9.out.lt;have hX9':=HX9.out.below hb9 HX9.out.lt;have hrd9:Rds w9 3 (some ⟨v7.heap.size,0,none⟩) 1 [.int .i64 0,.int .i64 (-1),.int .i64 1152921504606846976]:=by rw [hw9];exact ((Blk.new v7 269 #[.int .i64 0,.int .i64 (-1),.int .i64 1152921504606846976]).drew).rds rfl
             have hro9:=hro.below hb9;have hrc9:=Zc hb9 (Zn _) hrc;have hsz9:v0.heap.size+2≤w9.heap.size:=by have:=hT9'.lt;omega
             refine Qbs (i:=7) (by kernel_rfl) (by rfl) rfl (fun K hK=>?_);go_simp;rw [←hw9];refine hK.out _ _ ⟨Zc hb9 (Zn _) x21,hrc9,Zc hb9 (Zn _) y0,Zc hb9 (Zn _) y1,Zc hb9 (Zn _) y2⟩ (fun _=>?_);clear hK K hw9;refine Qbs (i:=8) (by kernel_rfl) (by rfl) rfl (fun K hK=>?_);with_reducible refine Qay (some 125) rfl rfl (.tmp 122) (.tmp 124) 267 rfl 269 _ 3 24 Qgm underlying267 rfl (by omega) rfl rfl hro9 hrd9 (Qds _ _ _) (by omega) (by omega) hsz9 ?_
             intro RA' rc' w10 ho10 hg10 hat10;have hT10:=hT9'.grown hg10 (fun e=>by have:=(hRAlt _ e).1;omega);have hX10:=hX9'.grown hg10 (fun e=>(hRAlt _ e).2 rfl);have z21:w10.cell? ⟨v0.heap.size+1,0,none⟩=some (.slice (some ⟨v0.heap.size,0,none⟩) kq.length kq.length):=Zq hT10
             obtain ⟨zv,zc,zf⟩:∃ v,w10.cell? ⟨v0.heap.size,t,none⟩=some (.slice RA rn rc)∧w10.frozen? ⟨v0.heap.size,t,none⟩=false∧v=0:=by
              exact Kba
             refine hK.out _ _ ⟨z21,zc,Zq hX10,Zq hX10,Zq hX10⟩ (fun _=>?_);clear hK K;simp only [Act.put,Yi,Yj,Yk];have hIF:=hI9'.push (s:=(0,(-1),1152921504606846976)) hrl (by rw [←HRN.out];exact hrc9) (by rw [←HRN.out];exact ho10) hg10 hat10;have hb10:Below v0.heap.size v0 (w10.setCell ⟨v0.heap.size,t,none⟩ (.slice RA' (rn+1) rc')):=Zi ((Zb HB9.out hb9).grown hg10 (by omega) (fun g e=>by have:=(hRAlt g e).1;omega)) (Zn _);have hT11:=hT10.far_ (b:=v0.heap.size) (o:=t) (by omega) (.slice RA' (rn+1) rc');rw [List.set_set,←HRN.out] at hIF;have HIF:=Zh hIF;have HBF:=Zh hb10;have HTF:=Zh hT11;clear hIF hb10 hT11 ho10 hg10 hat10 hI9' hT9' hX9' hrd9 hro9 hrc9 hsz9 hT10 hX10 hI9 hrl hrc hrf hro hRAlt hb9;refine tkF 9 126 (h:=⟨_,tv,?_⟩);simp only [pE,List.set];refine Qby (k:=10) (by kernel_rfl) rfl (fun K hK=>?_);go_simp;refine hK.out _ _ ?_;clear hK K;refine Qbt (by kernel_rfl) ?_ _
             go_wp2_with fail
             go_roundw
             case rel=>exact ⟨j+1,by go_num,by omega,HBF.out,HTF.out,by rw [Qmy HMZ.out,HRW.out];exact HIF.out⟩
             case measure=>simp [intOf];omega
        · obtain rfl:m2=j:=by omega
          rw [Ye (by rw [Qjo];omega)] at hI;have HBz:=Zh hb;have HTz:=Zh hT;have HIz:=Zh hI;clear hb hT hI
          go_wp2_with fail
          go_roundw
          case rel =>
           refine ⟨t+1,_,by go_num,by omega,HBz.out,HTz.out,HIz.out,fun j q' y' hj h1 h2=>?_,fun j hj hjn=>?_⟩
           · rcases Nat.lt_or_ge j t with h3|h3
             · rw [Yh (by omega)]
               exact HDN.out j q' y' h3 h1 h2
             · have e:j=t:=by omega
               subst e;rw [HQ.out] at h1
               cases h1
               rw [HY.out] at h2
               cases h2
               rw [Yg (by rw [HRL.out];exact htlt)]
           · rw [Yh (by omega)]
             exact HRE.out j (by omega) hjn
          case measure=>simp [intOf];omega
     · obtain rfl:kq.length=t:=by omega
       have hLen:∀ (j q:Nat) (y:Qak),kq[j]?=some q→(Qaf N.ar lb)[q]?=some y→rows.getD j []=LLo N x f y:=fun j q y h1 h2=>by
        rw [Ya,hdn j q y (Zs h1).1 h1 h2]
        rfl
       have hLst:LstI N lb x kq f (fun p=>rows.getD p []):=⟨fun j q y h1 h2=>by rw [hLen j q y h1 h2,Qjo],fun j q y m mm h1 h2 h3=>by rw [hLen j q y h1 h2];exact LLo_at h3⟩;have HF:=Zh (Qsq.of hok hP HL.out.1 HL.out.2 HX.out HKQ.out HS.out hLst HE.out);have HLEN:=Zh hLen;have HB:=Zh hb;have HT:=Zh hT;have HI:=Zh hI;have hspl:=HS.out.len;have HSPL:=Zh hspl;have hSb:=HK.out.bS.below hb HK.out.bS.lt;have hX0:=HK.out.bX.below hb HK.out.bX.lt;have s4:v2.cell? ⟨w.heap.size+1+1+1+1,0,none⟩=some (.slice SPA spots.length spc):=Zq hSb;have x0:v2.cell? ⟨w.heap.size,0,none⟩=some (.slice A1 n1 c1):=Zq hX0;have x0a:=fun ob=>Zc ((Zr v2.heap.size v2).alloc (Zn _) ob) (Zn _) x0
       have hn1:x.1.length=n1:=H1.out.1;have hgx:=Qbi HX.out;have hww:=HK.out.bel;clear hb hT hI hdn hrest hLen hLst hspl hSb hX0
       go_wp2_with fail
       (refine Qai ?_;intro w14 hw14)
       have hb14:Below v2.heap.size v2 w14:=by rw [hw14];exact (Zr _ _).alloc (Zn _) _
       have hF14:Blk w14 v2.heap.size 212 #[.int .i64 (spots.length:Nat),.slice none 0 0,.nilFunc]:=by rw [hw14];exact Qbh
       clear hw14 x0 x0a s4
       go_loopw [135] (fun q V=>∃ (ii:Nat) (starts:List Nat) (S2:Option Addr) (sc2:Nat),q=.int .i64 ii∧ii≤n1∧Below v2.heap.size v2 V∧Blk V v2.heap.size 212 #[.int .i64 (spots.length:Nat),.slice S2 ii sc2,.nilFunc]∧Own V (v2.heap.size+1) 3 1 S2 ii sc2 (Qag (nis starts)) ∧
        (∀ (k s:Nat),k<ii→x.1[k]?=some (s:Int)→∃ p:Nat,starts[k]?=some p∧pl[p]?=some s)) (fun q _=>n1-(intOf q).toNat)
       case atStart=>exact ⟨0,[],_,_,by go_num,Nat.zero_le _,hb14,hF14,Own.nil _ _ _ _,fun k s h=>by omega⟩
       case round =>
        clear hb14 hF14;obtain ⟨ii,starts,S2,sc2,rfl,hin2,hb,hF,ho,hst⟩:=hrel;obtain ⟨v,rfl⟩:∃ v,v=wr:=⟨_,rfl⟩
        by_cases hlt:ii<n1
        · obtain ⟨az,haz⟩:∃ az,x.1[ii]?=some az:=⟨_,Zg (by omega)⟩
          obtain ⟨a,rfl⟩:=Qew HX.out haz;obtain ⟨ab,ao,rfl,hca⟩:=(H1.out.below (Zb (Zb hww HB.out) hb)).2 ii _ haz;obtain ⟨z,hz,k1,k2⟩:=(Qcv HX.out).1 (Zm haz)
          have hink:Qcg N l lb c a:=⟨z,hz,fun e=>k1 (by
           have hm:=Zm hz;rw [←k2];exact (Qhg hok (hP.lvl l (Zm HL.out.1)).len (hP.lvl lb (Zm HL.out.2)).len (hP.nest _ lb l HL.out.2 HL.out.1) hm z.2.1 z.1 rfl (.inr rfl) hm e.symm).symm),k2⟩
          obtain ⟨p,hp⟩:=HF.out.all a hink;have hfa:=(HS.out.map a p).2 hp;have han:=(Zs hz).1;have hpn:=(Zs hp).1;have hple:=HS.out.le;have hmapV:=(HK.out.map.below HB.out).below hb;have hstl:starts.length=ii:=by have:=ho.1;simpa [Qag,nis] using this
          obtain ⟨W2,hW2⟩:∃ W2,W2=v.alloc (.cells #[.int .i64 (p:Nat)] 3):=⟨_,rfl⟩;have hbW:Below v.heap.size v W2:=by rw [hW2];exact (Zr _ _).alloc (Zn _) _
          have hrdW:Rds W2 1 (some ⟨v.heap.size,0,none⟩) 1 (Qag [(p:Int)]):=by rw [hW2];exact (Blk.new v 3 #[.int .i64 (p:Nat)]).rds rfl
          have hownW:=ho.below hbW;have hvs:=hF.lt;have hszW:v2.heap.size+1≤W2.heap.size:=by have:=hbW.size;omega
          have f1:v.cell? ⟨v2.heap.size,1,none⟩=some (.slice S2 ii sc2):=Zq hF;have HFF:=Zh (hF.below hbW hF.lt);have HBB:=Zh (Zb hb hbW);have HW2:=Zh hW2;have HST:=Zh hst;have HAZ:=Zh haz;have HP:=Zh hp;have HSTL:=Zh hstl;have HFA:=Zh hfa;have j1:(0:Int)≤(ii:Int):=by omega
          have j2:(ii:Int)<(n1:Int):=by omega
          clear hW2 hbW hb hF ho hst haz hp hz k1 k2 hink hstl hfa
          go_wp2_with (first|(at_lookup;with_reducible refine wpMap_at rfl _ _ rfl a p rfl hmapV rfl (by omega) HFA.out ?_)|(at_builtin;rw [←HW2.out];with_reducible refine Qal rfl (.tmp 140) (.tmp 144) 61 rfl 3 _ 1 8 Qbm underlying61 rfl (by omega) rfl rfl hownW hrdW (Qao _) (by omega) (by omega) hszW ?_))
          intro A4 c4 v13 ho13 hg13 hat13;have hF13:=HFF.out.grown hg13 (fun e=>by have:=(hownW.lt _ e).1;omega);have hB13:=HBB.out.grown hg13 (by have:=HBB.out.size;omega) (fun j hj=>by have:=(hownW.lt j hj).1;omega);have f1':v13.cell? ⟨v2.heap.size,1,none⟩=some (.slice S2 ii sc2):=Zq hF13;have z1:=hF13.frozen 1;have HF2:=Zh (hF13.set_ 1 (.slice A4 (ii+1) c4));have HO2:=Zh (ho13.far (Qad v13 v2.heap.size 1 (.slice A4 (ii+1) c4)) (.inr (fun e=>by have:=(ho13.lt _ e).1;omega)));have HB2:=Zh (Zi (b:=v2.heap.size) (o:=1) (u:=.slice A4 (ii+1) c4) hB13 (Zn _));clear hownW hrdW hszW ho13 hg13 hat13 hF13 hB13 hmapV
          go_wp2_with fail
          go_roundw
          case rel =>
           refine ⟨ii+1,starts ++[p],A4,c4,by go_num,by omega,HB2.out,HF2.out,by rw [Qfj,Qbj];exact HO2.out,fun k s hk hs=>?_⟩
           rcases Nat.lt_or_ge k ii with h3|h3
           · obtain ⟨p',e1,e2⟩:=HST.out k s h3 hs
             exact ⟨p',by rw [Yc (Zs e1).1];exact e1,e2⟩
           · have e:k=ii:=by omega
             subst e;rw [HAZ.out] at hs;have:a=s:=by have:=Yv hs;omega
             subst this;exact ⟨p,by rw [Yb (by rw [HSTL.out];exact Zn _),HSTL.out,Yy];rfl,HP.out⟩
          case measure=>simp [intOf];omega
        · obtain rfl:n1=ii:=by omega
          have f0:v.cell? ⟨v2.heap.size,0,none⟩=some (.int .i64 (spots.length:Nat)):=Zq hF;have f1:v.cell? ⟨v2.heap.size,1,none⟩=some (.slice S2 n1 sc2):=Zq hF;have f2:v.cell? ⟨v2.heap.size,2,none⟩=some .nilFunc:=Zq hF;have z2:=hF.frozen 2;have hF2:Blk (v.setCell ⟨v2.heap.size,2,none⟩ (.func (.func 158) #[] #[.pointer (some ⟨w.heap.size+1+1+1+1,0,none⟩),.pointer (some ⟨v0.heap.size+1,0,none⟩),.pointer (some ⟨w.heap.size+1,0,none⟩)])) v2.heap.size 212 #[.int .i64 (spots.length:Nat),.slice S2 n1 sc2,.func (.func 158) #[] #[.pointer (some ⟨w.heap.size+1+1+1+1,0,none⟩),.pointer (some ⟨v0.heap.size+1,0,none⟩),.pointer (some ⟨w.heap.size+1,0,none⟩)]]:=hF.set_ 2 _;have hbv:Below v2.heap.size v2 (v.setCell ⟨v2.heap.size,2,none⟩ (.func (.func 158) #[] #[.pointer (some ⟨w.heap.size+1+1+1+1,0,none⟩),.pointer (some ⟨v0.heap.size+1,0,none⟩),.pointer (some ⟨w.heap.size+1,0,none⟩)])):=Zi hb (Zn _);have g0:(v.setCell ⟨v2.heap.size,2,none⟩ (.func (.func 158) #[] #[.pointer (some ⟨w.heap.size+1+1+1+1,0,none⟩),.pointer (some ⟨v0.heap.size+1,0,none⟩),.pointer (some ⟨w.heap.size+1,0,none⟩)])).cell? ⟨v2.heap.size,0,none⟩=some (.int .i64 (spots.length:Nat)):=Zq hF2;have g1:(v.setCell ⟨v2.heap.size,2,none⟩ (.func (.func 158) #[] #[.pointer (some ⟨w.heap.size+1+1+1+1,0,none⟩),.pointer (some ⟨v0.heap.size+1,0,none⟩),.pointer (some ⟨w.heap.size+1,0,none⟩)])).cell? ⟨v2.heap.size,1,none⟩=some (.slice S2 n1 sc2):=Zq hF2;have g2:(v.setCell ⟨v2.heap.size,2,none⟩ (.func (.func 158) #[] #[.pointer (some ⟨w.heap.size+1+1+1+1,0,none⟩),.pointer (some ⟨v0.heap.size+1,0,none⟩),.pointer (some ⟨w.heap.size+1,0,none⟩)])).cell? ⟨v2.heap.size,2,none⟩=some (.func (.func 158) #[] #[.pointer (some ⟨w.heap.size+1+1+1+1,0,none⟩),.pointer (some ⟨v0.heap.size+1,0,none⟩),.pointer (some ⟨w.heap.size+1,0,none⟩)]):=Zq hF2;have hR0:=HK.out.bR.below HB.out HK.out.bR.lt;have hR2:=hR0.below hbv hR0.lt;have r0:(v.setCell ⟨v2.heap.size,2,none⟩ (.func (.func 158) #[] #[.pointer (some ⟨w.heap.size+1+1+1+1,0,none⟩),.pointer (some ⟨v0.heap.size+1,0,none⟩),.pointer (some ⟨w.heap.size+1,0,none⟩)])).cell? ⟨w.heap.size+1+1,0,none⟩=some (.int .i64 0):=Zq hR2;have r1:(v.setCell ⟨v2.heap.size,2,none⟩ (.func (.func 158) #[] #[.pointer (some ⟨w.heap.size+1+1+1+1,0,none⟩),.pointer (some ⟨v0.heap.size+1,0,none⟩),.pointer (some ⟨w.heap.size+1,0,none⟩)])).cell? ⟨w.heap.size+1+1,1,none⟩=some (.slice none 0 0):=Zq hR2;have r2:(v.setCell ⟨v2.heap.size,2,none⟩ (.func (.func 158) #[] #[.pointer (some ⟨w.heap.size+1+1+1+1,0,none⟩),.pointer (some ⟨v0.heap.size+1,0,none⟩),.pointer (some ⟨w.heap.size+1,0,none⟩)])).cell? ⟨w.heap.size+1+1,2,none⟩=some .nilFunc:=Zq hR2;have rf:=fun o=>hR2.frozen o
          have HFF:=Zh hF;have HOO:=Zh ho;have HBB:=Zh hb;have HR2':=Zh hR2;have HBV:=Zh hbv;have HST:=Zh hst;clear hF hF2 ho hb hR2 hbv hst hR0
          go_wp2_with fail
          refine Qel ?_;intro W hW;have hBR:Blk W (w.heap.size+1+1) 212 #[.int .i64 (spots.length:Nat),.slice S2 n1 sc2,.func (.func 158) #[] #[.pointer (some ⟨w.heap.size+1+1+1+1,0,none⟩),.pointer (some ⟨v0.heap.size+1,0,none⟩),.pointer (some ⟨w.heap.size+1,0,none⟩)]]:=by rw [hW];exact ((HR2'.out.set_ 0 _).set_ 1 _).set_ 2 _
          have hbW:Below w.heap.size w W:=by
           rw [hW];exact Zi (Zi (Zi (Zb (Zb hww HB.out) HBV.out) (by omega)) (by omega)) (by omega)
          have hk:∀ q,q≠v2.heap.size→q≠w.heap.size+1+1→W.heap[q]?=v.heap[q]?:=fun q q1 q2=>by
           exact Kbv
          have hkk:∀ q,q<v2.heap.size→q≠w.heap.size+1+1→W.heap[q]?=v2.heap[q]?:=fun q q1 q2=>(hk q (by omega) q2).trans (HBB.out.block q q1)
          have c0:W.cell? ⟨w.heap.size+1+1,0,none⟩=some (.int .i64 (spots.length:Nat)):=Zq hBR;have c1':W.cell? ⟨w.heap.size+1+1,1,none⟩=some (.slice S2 n1 sc2):=Zq hBR;have c2':W.cell? ⟨w.heap.size+1+1,2,none⟩=some (.func (.func 158) #[] #[.pointer (some ⟨w.heap.size+1+1+1+1,0,none⟩),.pointer (some ⟨v0.heap.size+1,0,none⟩),.pointer (some ⟨w.heap.size+1,0,none⟩)]):=Zq hBR;clear hW;have hs0:=HK.out.bS.lt;have hs2:=HB.out.size;have hSb:=HK.out.bS.below HB.out HK.out.bS.lt;have hCb:=HK.out.bC.below HB.out HK.out.bC.lt;have hSbl:=hSb.lt;have hCbl:=hCb.lt;have hTl:=HT.out.lt;have hSW:Blk W (w.heap.size+1+1+1+1) 271 #[.slice SPA spots.length spc]:=(hkk _ hSbl (by omega)).trans hSb;have hCW:Blk W (w.heap.size+1) 36 #[.slice CA NC cC]:=(hkk _ hCbl (by omega)).trans hCb;have hTW:Blk W (v0.heap.size+1) 266 #[.slice (some ⟨v0.heap.size,0,none⟩) kq.length kq.length]:=(hkk _ hTl (by omega)).trans HT.out;have hIW:=HI.out.keep (fun q q1 q2=>hkk q q1 (by omega));have hS2:RdI W S2 n1 (nis starts):=(HOO.out.keep (fun q e=>hk q (by have:=(HOO.out.lt q e).1;omega) (by have:=(HOO.out.lt q e).1;omega))).rds.rdI;have hsp:=HK.out.sp.below HB.out;have hspW:=hsp.keep (fun q e=>hkk q (hsp.lt q e).2 (by have:=(hsp.lt q e).1;omega))
          have hrowb:∀ t∈rows,t.length≤1000000:=fun t ht=>by
           obtain ⟨j,hj⟩:=Yr ht;have hjl:=(Zs hj).1;rw [HI.out.1] at hjl;obtain ⟨q,hq⟩:∃ q,kq[j]?=some q:=⟨_,Zg hjl⟩;obtain ⟨y,hy⟩:=HGK.out j q hq;have h3:=HLEN.out j q y hq hy;rw [Ya,hj] at h3;have:t=LLo N x f y:=h3;rw [this,Qjo];have:=Qbi hy;omega
          have hspots:∀ (p:Nat) (fi:Int) (t:Nat),spots[p]?=some (fi,t)→t<kq.length∧(rows.getD t []=[]∨(0≤fi∧fi.toNat+(rows.getD t []).length≤NC)):=fun p fi t h3=>by
           have hpn:=(Zs h3).1;obtain ⟨a,ha⟩:∃ a,pl[p]?=some a:=⟨_,Zg (by rw [←HSPL.out];exact hpn)⟩;obtain ⟨t',q,y,k,e1,e2,e3,_,e5⟩:=HS.out.snd p a ha;rw [h3] at e5
           cases e5
           refine ⟨(Zs e1).1,?_⟩;rw [HLEN.out t q y e1 e2]
           by_cases h0:y.2.length=0
           · left
             exact List.eq_nil_of_length_eq_zero (by rw [Qjo];exact h0)
           · right
             have h4:=Qja (gs:=Qac N.ar ls) (Qbq HL.out.2) e2 (a:=k) (b:=y.2.length-1) (Zs e3).1 (by omega);have h5:=Qfr (Qac N.ar ls) (i+1);unfold Qiv;rw [if_neg h0,Qjo];unfold Qey at h4 ⊢;omega
          have hcosts:∀ (t:Nat),t<kq.length→∀ s∈rows.getD t [],0≤s.2.2∧s.2.2≤1152921504606846976:=fun t ht s hs=>by
           obtain ⟨q,hq⟩:∃ q,kq[t]?=some q:=⟨_,Zg ht⟩;obtain ⟨y,hy⟩:=HGK.out t q hq;rw [HLEN.out t q y hq hy] at hs;obtain ⟨zz,hzz,rfl⟩:=List.mem_map.1 hs;obtain ⟨j,hj⟩:=Yr hzz;obtain ⟨m,rfl⟩:=Qcz hy hj;obtain ⟨z,hz,_,_⟩:=(Qbo hy).1 hzz;have hw:=Qdq (hok.arcs z (Zm hz)).w;rw [Yl];unfold Qnm
           by_cases h3:0≤plI x.2 (m:Int)
           · rw [if_pos h3];simp only;omega
           · rw [if_neg h3]
             simp only;rw [(Qbr hz).2.2]
             split <;> omega
          have hNx:=Qpy W (w.heap.size+1+1+1+1) (v0.heap.size+1) (w.heap.size+1) spots.length kq.length NC spc kq.length cC SPA (some ⟨v0.heap.size,0,none⟩) CA spots (fun p=>rows.getD p []) costs (Zq hSW) (Zq hTW) (Zq hCW) hspW.rds.rdP (hIW.stepsAt hrowb) (HC.out.below hbW) (by omega) hspots hcosts HCO.out;refine bodyPost_ret (v:=.agg #[.int .i64 (spots.length:Nat),.slice S2 n1 sc2,.func (.func 158) #[] #[.pointer (some ⟨w.heap.size+1+1+1+1,0,none⟩),.pointer (some ⟨v0.heap.size+1,0,none⟩),.pointer (some ⟨w.heap.size+1,0,none⟩)]]) (by simp [results,results109,go_sem,c0,c1',c2']) rfl ?_;refine ⟨S2,sc2,w.heap.size+1+1+1+1,v0.heap.size+1,w.heap.size+1,pl,starts,Qpw costs spots (fun p=>rows.getD p []),by rw [←HSPL.out],hS2,by rw [←HSPL.out];exact hNx,HF.out,fun p hp=>?_,Yx HS.out.le hla,fun k s h=>HST.out k s (by have:=(Zs h).1;omega) h,hbW⟩;unfold Qpw;rw [Yd (by rw [HSPL.out];exact hp)]
end Go.Proofs.YtdheeddnkdhfeaaGreatDoor
