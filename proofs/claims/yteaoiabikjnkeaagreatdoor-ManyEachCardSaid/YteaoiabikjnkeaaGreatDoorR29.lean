/- Parts of the proof: MnX. -/
import Derived.Test.YteaoiabikjnkeaaGreatDoorR1
import Derived.Test.YteaoiabikjnkeaaGreatDoorR28
namespace Go.Proofs.YteaoiabikjnkeaaGreatDoor
open Go.RowKit Go.Maps Go.Proofs.Tryz
attribute [local go_sem ↓] Go.wp_at_zero Go.wp_at_succ
theorem mNext_ok (w:World)(qb g o:Nat)(N:Qap) (ls:List (List Int)) (TA:Option Addr) (nt ct:Nat) (tl:List Int) (CA:Option Addr) (NC cC:Nat) (cl:List Int) (Q:Option Addr) (L cq mb a:Nat) (y:Tri) (av:List Int) (G:Nat→Prop) (n:Nat) (f:Nat→Nat→Option Value) (h:MR (msk w G) qb g o N ls TA nt ct tl CA NC cC cl Q L cq mb) (hGm:¬G mb)
 (hm:MpQ w mb n f) (hn:n≤2000000) (hmc:MpC w G N.ar ls f) (hok:Qaz N) (hP:Qbn N.vs.length ls) (hA:Qee N ls cl) (hcc:NC≤cC∧cC≤9223372036854775807) (hSm:Qcd (Qaf N.ar ls)≤1000000000) (hy:N.ar[a]?=some y) (hg:Quw N ls av a) :
 Calls prog 145 #[.pointer (some ⟨qb,0,none⟩),.int .i64 ((Qhu ls (toV N a) av:Nat):Int),.int .i64 a] w (NxtR w G mb n N ls av a):=by
 cases hJ:Qhu ls (toV N a) av with
 | succ j=>exact Qxq w qb g o N ls TA nt ct tl CA NC cC cl Q L cq mb a (j+1) j y av G n f h hGm hm hn hmc hok hP hA hcc hSm hy hg hJ rfl
 | zero =>
  refine (Qxh w qb g o N ls TA nt ct tl CA NC cC cl Q L cq mb a y (h.le (Qba _ _)) hok hy).mono ?_;rintro e w' ⟨O,C,nO,cO,cC',rfl,h1,h2,h3,hb⟩;have hx:Nxw mb w w':=Nxw.below hb hm.lt;have hle:Le (msk w' (fun b=>w.heap.size≤b∧b<w'.heap.size)) (msk w' (G2 G w w')):=Qbe (fun _ hb=>.inr hb);exact ⟨O,C,nO,cO,cC',n,_,_,f,rfl,Qye hok hy hJ,h1.le hle,h2.le hle,hm.below hb,by omega,hmc.le (G2.le hx hGm),hx,h3⟩
def MRowR (w:World)(G:Nat→Prop)(mb n nt:Nat)(N:Qap) (ls:List (List Int)) (av:List Int) (s:Nat) (tl:List Int) (e:Ending) (w':World):Prop :=
 ∃ (rb n':Nat) (f':Nat→Nat→Option Value) (row:List Int),e=.returned (.slice (some ⟨rb,0,none⟩) nt nt)∧RowQ N ls av s tl row∧Blk w' rb 2 (Qbu row)∧w.heap.size≤rb∧MpQ w' mb n' f'∧n'≤n+16384∧MpC w' (G2 G w w') N.ar ls f'∧Nxw mb w w'
def Qvs (nt i:Nat):List Int:=(List.replicate nt (1152921504606846976:Int)).take i ++(List.replicate nt (0:Int)).drop i
theorem Qwh (nt:Nat):Qvs nt 0=List.replicate nt 0:=by simp [Qvs]
theorem rowF_all (nt:Nat):Qvs nt nt=List.replicate nt 1152921504606846976:=by simp [Qvs]
theorem rowF_get {nt i:Nat}(h:i<nt):∃ v,(Qvs nt i)[i]?=some v:=by
 refine ⟨_,Zg ?_⟩;simp only [Qvs,List.length_append,List.length_take,List.length_drop,List.length_replicate];omega
theorem rowF_set {nt i:Nat}(h:i<nt):(Qvs nt i).set i 1152921504606846976=Qvs nt (i+1) :=
 Qhp (by rw [List.getElem?_replicate,if_pos h]) (by simp)
def KeyM (tl:List Int)(i:Nat)(ks:List Nat):Prop:=∀ k:Nat,k∈ks↔(k:Int)∈tl.take i
def insK (k:Nat)(ks:List Nat):List Nat:=if k∈ks then ks else k::ks
theorem insK_len {k n:Nat}{ks:List Nat}(h:ks.length≤n):(insK k ks).length≤n+1:=by
 unfold insK
 split
 · omega
 · simp only [List.length_cons];omega
theorem Quy {w:World}{ops:Array Oper}{rest:List Oper}{o:Oper}{a:Act}{Q:Exit→Act→World→Prop}{b n:Nat}{ks:List Nat}(hg:o.guard=none)(m x v:Operand)(hop:o.op=Op.mapUpdate 264 m x v)(k:Nat) (hm:a.eval m=.map (some b)) (h:MpK w b n ks) (hn:n≤1000000000) (hx:a.eval x=.int .i64 k) (hv:a.eval v=.int .i64 0) (hk:k≤1000000000000)
 (hK:∀ w',MpK w' b (n+1) (insK k ks)→w.grownBy w' (some b)→wpList prog ops Q rest (a.put o.dst undef) w'):wpList prog ops Q (o::rest) a w:=Qvq hg m x v hop k hm h hn hx hv hk hK
theorem KeyM.succ {tl:List Int}{i k:Nat}{ks:List Nat}(h:KeyM tl i ks) (ht:tl[i]?=some (k:Int)):KeyM tl (i+1) (insK k ks):=fun q=>by
 unfold insK;rw [List.take_add_one,ht]
 have e1:(q:Int)∈tl.take i ++(some (k:Int)).toList↔(q:Int)∈tl.take i∨q=k:=by
  rw [List.mem_append];simp only [Option.toList_some,List.mem_singleton];exact ⟨fun h=>h.elim .inl (fun h=>.inr (Int.ofNat.inj h)),fun h=>h.elim .inl (fun h=>.inr (by rw [h]))⟩
 rw [e1,←h q]
 by_cases e:k∈ks
 · rw [if_pos e]
   exact ⟨.inl,fun h=>h.elim id (fun e2=>e2▸e)⟩
 · rw [if_neg e,List.mem_cons]
   exact or_comm
set_option maxRecDepth 20000 in
set_option maxHeartbeats 4000000 in
theorem Quz (w:World)(qb g o:Nat)(N:Qap) (ls:List (List Int)) (TA:Option Addr) (nt ct:Nat) (tl:List Int) (CA:Option Addr) (NC cC:Nat) (cl:List Int) (Q:Option Addr) (L cq mb s:Nat) (xs:Tri) (G:Nat→Prop) (n0:Nat) (f0:Nat→Nat→Option Value) (h:MR (msk w G) qb g o N ls TA nt ct tl CA NC cC cl Q L cq mb) (hGm:¬G mb) (hGl:∀ b,G b→b<w.heap.size)
 (hm:MpQ w mb n0 f0) (hn:n0≤1100000) (hmc:MpC w G N.ar ls f0) (hok:Qaz N) (hP:Qbn N.vs.length ls) (hA:Qee N ls cl) (hcc:NC≤cC∧cC≤9223372036854775807) (hSm:Qcd (Qaf N.ar ls)≤1000000000) (hxs:N.ar[s]?=some xs) (hts:∀ (i:Nat) (t:Int),tl[i]?=some t→∃ (a:Nat) (y:Tri),t=(a:Int)∧N.ar[a]?=some y) (hnt:nt≤1000000) :
 Calls prog 88 #[.pointer (some ⟨qb,0,none⟩),.int .i64 s] w (MRowR w G mb n0 nt N ls (avM N s tl nt) s tl):=by
 have hE:=hA.ex hok hP;have HAV:=Zh (show toV N s∈avM N s tl nt by unfold avM;simp)
 have HE:=Zh hE;have HOK:=Zh hok;have HP:=Zh hP;obtain ⟨na,hna⟩:∃ na,na=N.ar.length:=⟨_,rfl⟩;have HNA:=Zh hna;have hna4:na≤16384:=by rw [hna];exact hok.la
 have hsn:s<na:=by rw [hna];exact (Zs hxs).1
 have HXS:=Zh hxs;have HTS:=Zh hts;have HLT:=Zh (show tl.length=nt from h.ts.1)
 have HGL:=Zh (show (∀ b,G b→b<w.heap.size)∧¬G mb from ⟨hGl,hGm⟩)
 have HM:=Zh hm;have HMC:=Zh hmc;have HH:=Zh h;have HQ:=Zh (fun V (hV:Below w.heap.size w V)=>(h.le (Qba _ _)).below hV);have HPN:=Zh (fun V (hV:Below w.heap.size w V)=>Qwv V qb g o N ls TA nt ct tl CA NC cC cl Q L cq mb s xs ((h.le (Qba _ _)).below hV) hok hP hxs hts hnt)
 have HLV:=Zh (show ∀ V,MR V qb g o N ls TA nt ct tl CA NC cC cl Q L cq mb→∀ pb,PlnR V pb ls (avM N s tl nt)→∀ (p:Nat) (x:Tri),N.ar[p]?=some x→Calls prog 146 #[.pointer (some ⟨qb,0,none⟩),.slice (some ⟨pb,0,none⟩) L L,.int .i64 x.2.1] V fun e w'=>e=.returned (.int .i64 ((Qhu ls (toV N p) (avM N s tl nt):Nat):Int))∧Below V.heap.size V w' from fun V hV pb hp p x hx=>by
  obtain ⟨u0,vs,es1,es2,hus,hvs⟩:=Qhj hok hx;rw [(Qbs hx).1,es2];exact Qxz V qb g o N ls TA nt ct tl CA NC cC cl Q L cq mb pb _ vs hV hP hp hvs (by have:=hok.lv;omega))
 have HNX:=Zh (fun (V:World) (G:Nat→Prop) (n a:Nat) (f:Nat→Nat→Option Value) (y:Tri) (hV:MR (msk V G) qb g o N ls TA nt ct tl CA NC cC cl Q L cq mb) (hGm:¬G mb) (hm:MpQ V mb n f) (hn:n≤2000000) (hmc:MpC V G N.ar ls f) (hy:N.ar[a]?=some y) (hg:Quw N ls (avM N s tl nt) a)=>mNext_ok V qb g o N ls TA nt ct tl CA NC cC cl Q L cq mb a y (avM N s tl nt) G n f hV hGm hm hn hmc hok hP hA hcc hSm hy hg);have HWE:=Zh (fun (V:World) (hV:Qfv V g N) (b:Nat) (y:Tri) (hy:N.ar[b]?=some y)=>Qhz g b N y V hV hy);have HTO:=Zh (fun (V:World) (hV:Qfv V g N) (b:Nat) (y:Tri) (hy:N.ar[b]?=some y)=>Qim g b N y V hV hy);have HGA:=Zh (show ∀ V,Qfv V g N→Calls prog 85 #[.pointer (some ⟨g,0,none⟩)] V fun e w'=>e=.returned (.int .i64 (na:Int))∧V=w' from fun V hV=>by rw [hna];exact Qfp g N V hV)
 have hw9:=(Qbs hxs).2.2;obtain ⟨z0,hz0⟩:∃ z,z=xs.2.2:=⟨_,rfl⟩;have hzb:=Qec (hok.arcs xs (Zm hxs)).w;have HZS:=Zh (show wV N s=z0 by rw [hw9,hz0])
 have HZX:=Zh hz0;rw [←hz0] at hzb;have q3:=(h.le (Qba _ _)).q3;have ql:=Qaj q3;simp only at ql;have hmk:=Qdw nt (by omega);have hmb:=Qpl na (by omega);have hmm:=@run_makeMap prog;obtain ⟨av,hav⟩:∃ av,av=avM N s tl nt:=⟨_,rfl⟩;rw [←hav] at HAV HPN HLV HNX ⊢;clear h hav hGm hGl hm hmc hok hP hA hcc hSm hxs hts hna hE hw9 hz0
 go_enter func88,ntmps88
 go_wp2_with fail
 (refine Qak ?_;intro w1 hw1)
 have HB1:=Zh (show Below w.heap.size w w1 by rw [hw1];exact Qah)
 have HR1:=Zh (show Blk w1 w.heap.size 2 (Qbu (Qvs nt 0)) by rw [hw1,Qwh,←Qar];exact Qbg)
 have HM1:=Zh (show MpK w1 (w.heap.size+1) 0 [] by rw [hw1];exact MpK.new' _ (by rw [World.size_alloc]))
 clear hw1 q3 ql hmk hmm;obtain ⟨rb,hrb⟩:∃ rb,rb=w.heap.size:=⟨_,rfl⟩;obtain ⟨wb,hwb⟩:∃ wb,wb=rb+1:=⟨_,rfl⟩;have HRB:=Zh (show w.heap.size=rb∧wb=rb+1 from ⟨hrb.symm,hwb⟩)
 rw [←hrb] at HR1 HM1 ⊢;rw [←hwb] at HM1 ⊢;clear hrb hwb
 go_loopw [37] (fun q W=>∃ (i nw:Nat) (ks:List Nat),i≤nt∧q=.int .i64 i∧Below w.heap.size w W∧Blk W rb 2 (Qbu (Qvs nt i))∧MpK W wb nw ks∧(nw≤i∧ks.length≤i)∧KeyM tl i ks) (fun q _=>nt-(intOf q).toNat)
 case atStart=>exact ⟨0,0,[],Nat.zero_le _,rfl,HB1.out,HR1.out,HM1.out,⟨Zn _,Zn _⟩,fun q=>by simp⟩
 case round =>
  clear HB1 HR1 HM1;obtain ⟨i,nw,ks,hi,rfl,hb,hr,hm,hnw,hk⟩:=hrel;have HB:=Zh hb;have HR:=Zh hr;have HMK:=Zh hm;have HK:=Zh hk
  by_cases hlt:i<nt
  · obtain ⟨tb,to,t,hTA,ht,ctt⟩:=(HQ.out wr hb).ts.at_ hlt
    obtain ⟨a,y,rfl,hy⟩:=HTS.out i t ht;have han:a<16384:=by have:=(Zs hy).1;have:=HNA.out;omega
    obtain ⟨ov,hov⟩:=rowF_get hlt;have r0:=hr.cellI hov;have rz:=hr.frozen i;have i1:(i:Int)<(nt:Int):=by omega
    have i2:(0:Int)≤(i:Int):=by omega
    have hrw:rb≠wb:=by have:=HRB.out.2;omega
    have hmp:MpK (wr.setCell ⟨rb,i,none⟩ (.int .i64 1152921504606846976)) wb nw ks:=hm.set hrw _;have HRX:=Zh (show Blk (wr.setCell ⟨rb,i,none⟩ (.int .i64 1152921504606846976)) rb 2 (Qbu (Qvs nt (i+1))) by rw [←rowF_set hlt];exact hr.setI rfl)
    have HBX:=Zh (show Below w.heap.size w (wr.setCell ⟨rb,i,none⟩ (.int .i64 1152921504606846976)) from hb.setCell (by simp only;have:=HRB.out.1;omega) _)
    have HKX:=Zh (hk.succ ht);subst hTA;clear hb hr hm hk hov ht hy
    go_wp2_with (at_mapUpdate;with_reducible refine Quy rfl _ _ _ rfl a rfl hmp (by omega) rfl rfl (by omega) ?_)
    intro w7 hm7 hg7;have HM7:=Zh hm7;have HR7:=Zh (HRX.out.grown hg7 (fun e=>hrw (by injection e with e;exact e.symm)));have HB7:=Zh (Qmv HBX.out hg7 (by have:=HRB.out;omega) HBX.out.size);clear hm7 hg7 hmp r0 rz ctt
    go_wp2_with fail
    go_roundw
    case rel=>exact ⟨i+1,nw+1,_,by omega,by go_num,HB7.out,HR7.out,HM7.out,⟨by omega,insK_len hnw.2⟩,HKX.out⟩
    case measure=>simp [intOf];omega
  obtain rfl:nt=i:=by omega
  have i1:¬(nt:Int)<(nt:Int):=by omega
  have hq:=HQ.out wr hb;have q0:=hq.q0;have HW0:=Zh (show Calls prog 72 #[.pointer (some ⟨g,0,none⟩),.int .i64 s] wr fun e w'=>e=.returned (.int .i64 z0)∧wr=w' from by rw [HZX.out];exact HWE.out _ hq.gr s xs HXS.out)
  rw [rowF_all] at HR
  have HKA:=Zh (show ∀ k:Nat,(k∈ks↔(k:Int)∈tl)∧(k∈ks→k≤16384) from fun k=>by
   have h1:=HK.out k;rw [List.take_of_length_le (by rw [HLT.out];exact Zn _)] at h1;refine ⟨h1,fun h=>?_⟩;obtain ⟨j,hj⟩:=List.getElem?_of_mem (h1.1 h);obtain ⟨a,y,e,hy⟩:=HTS.out j _ hj;have:=(Zs hy).1;have:=HNA.out;omega)
  have HNW:=Zh (show nw≤1000000 by omega)
  have HKN:=Zh (show ks.length≤1000000 by omega)
  have HPL:=Zh (HPN.out wr hb);clear hb hr hm hk hq hi hnw HK HPN
  go_wp2_with fail
  with_reducible refine HW0.out.mono ?_
  rintro r w' ⟨rfl,rfl⟩;clear HW0 q0
  by_cases hinf:z0=1152921504606846976
  · have e1:(1152921504606846976:Int)≤z0:=by omega
    go_wp2_with fail
    refine bodyPost_ret (v:=.slice (some ⟨rb,0,none⟩) nt nt) (by simp [results,results88,go_sem]) rfl ?_;refine ⟨rb,n0,f0,Qiv tl (fun _=>none),rfl,RowQ.none tl (by rw [HZS.out];exact hinf),by rw [Qpn,HLT.out];exact HR.out,by rw [HRB.out.1];exact Zn _,HM.out.below HB.out,by omega,HMC.out.le ((Qbf.msk (G:=G) (Qbf.below HB.out)).trans (Qbe (fun _ hb=>.inl hb))),Nxw.below HB.out HM.out.lt⟩
  have e1:¬(1152921504606846976:Int)≤z0:=by omega
  have HNI:=Zh (show wV N s≠1152921504606846976 by rw [HZS.out];exact hinf)
  clear hinf hzb
  go_wp2_with fail
  with_reducible refine HPL.out.mono ?_
  rintro r w3 ⟨⟨pb,rfl,hpg,hpb,hps⟩,hb3⟩;obtain ⟨G3,hG3⟩:∃ G3:Nat→Prop,G3=fun b=>G b∨(wr.heap.size≤b∧b<w3.heap.size):=⟨_,rfl⟩
  have hB3:=Zb HB.out hb3;have hsz:=HB.out.size;have hle3:Le (msk w G) (msk w3 G3):=(Qbf.msk (G:=G) (Qbf.below hB3)).trans (Qbe (fun b hb=>by rw [hG3];exact .inl hb));have HB3:=Zh hB3;have HQ3:=Zh (HH.out.le hle3);have HC3:=Zh (HMC.out.le hle3)
  have HP3:=Zh (show PlnK w3 G3 pb ls av from fun j l hl=>by
   obtain ⟨b,n,f,h1,h2,h3⟩:=hpg j l hl;exact ⟨b,n,f,by rw [hG3];exact ⟨.inr ⟨by omega,by omega⟩,.inr ⟨by omega,h3⟩⟩,h1⟩)
  have HG3:=Zh (show (∀ b,G3 b→b<w3.heap.size)∧∀ b,G3 b→b<w.heap.size∨wr.heap.size≤b from by
   rw [hG3];refine ⟨fun b hb=>hb.elim (fun h=>by have:=HGL.out.1 b h;have:=hB3.size;omega) (fun h=>h.2),fun b hb=>hb.elim (fun h=>.inl (HGL.out.1 b h)) (fun h=>.inr h.1)⟩)
  have HS3:=Zh (show ∀ b,G3 b→G b∨w.heap.size≤b from fun b hb=>by
   rw [hG3] at hb;exact hb.elim .inl (fun h=>.inr (by omega)))
  have HGM:=Zh (show ¬G3 mb from by
   rw [hG3];exact fun h=>h.elim HGL.out.2 (fun h=>by have:=HM.out.lt;omega))
  have HR3:=Zh (HR.out.below hb3 HR.out.lt);have HK3:=Zh (HMK.out.below hb3);have HM3:=Zh (HM.out.below hB3);have HML:=Zh HM.out.lt;have HRL:=Zh (show rb<wr.heap.size∧wb<wr.heap.size∧w3.heap.size=w3.heap.size∧wr.heap.size≤w3.heap.size from ⟨HR.out.lt,HMK.out.lt,rfl,hb3.size⟩)
  have q0:=(HQ3.out.le (Qba _ _)).q0;have ql:=Qaj q0;simp only at ql;clear hpg hpb hps hb3 hB3 hsz hle3 hG3 HPL HR HMK HB HQ HMC HH HM
  go_wp2_with fail
  with_reducible refine (HGA.out w3 (HQ3.out.gr.le (Qba _ _))).mono ?_
  rintro r w' ⟨rfl,rfl⟩;clear q0
  go_wp2_with fail
  (refine Qac ?_;intro w4 hw4)
  have hb4:Below w3.heap.size w3 w4:=by rw [hw4];exact Qah
  obtain ⟨db,hdb⟩:∃ db,db=w3.heap.size:=⟨_,rfl⟩;have D4:Blk w4 db 4 (Qfl (List.replicate na false)):=by rw [hw4,hdb,←Qma];exact Qbg
  have HZ4:=Zh (show w4.heap.size=db+1 by rw [hw4,hdb];simp)
  have HHN:=Zh (Qrx w4 na hna4);have HD4:=Zh D4;have HB4:=Zh hb4;have HDB:=Zh hdb;rw [←hdb];clear hw4 D4 hb4 hdb hmb ql;with_reducible refine HHN.out.mono ?_
  rintro r w5 ⟨gh,rfl,hh,hb5⟩
  have HW5:=Zh (show MRW w w5 G3 qb g o N ls TA nt ct tl CA NC cC cl Q L cq mb pb wb rb db gh na n0 n0 f0 av ks (Qiv tl (fun _=>none)) (List.replicate na false) (fun _=>none) from by
   have hb35:=Zb HB4.out hb5;have hk:Qbf G3 w3 w5:=Qbf.below hb35;have hle:Le (msk w3 G3) (msk w5 G3):=Qbf.msk hk;have g0:=HM3.out.lt;have g1:=HRL.out;have g2:=HDB.out;have g3:=HZ4.out;have g4:=HRB.out;have g5:=HB3.out.size;have g6:=hb35.size;have g7:=HML.out;refine ⟨⟨HQ3.out.le hle,HP3.out.kept hk,HM3.out.below hb35,HC3.out.le hle,⟨nw,HNW.out,HK3.out.below hb35⟩,by rw [Qpn,HLT.out];exact HR3.out.below hb35 HR3.out.lt,HD4.out.below hb5 HD4.out.lt,fun b hb=>by have:=HG3.out.1 b hb;omega,⟨HGM.out,fun h=>?_,fun h=>?_,fun h=>?_⟩,by omega,by omega,by omega,by omega,by omega,by omega⟩,hh.less (fun b hb=>?_),Nxw.below (Zb HB3.out hb35) g7,⟨g7,by omega,by omega,by omega⟩,by omega⟩
   · have:=HG3.out.2 _ h;omega
   · have:=HG3.out.2 _ h;omega
   · have:=HG3.out.1 _ h;omega
   · rcases hb with h1|h1|rfl|rfl|rfl
     · omega
     · have:=HG3.out.1 _ h1;omega
     all_goals omega)
  have HI5:=Zh (MI.init (N:=N) (ls:=ls) (av:=av) (s:=s) (na:=na));have HPU:=Zh (Qhi w5 _ HW5.out.hh s hsn 0 (by omega) (by omega));clear hh hb5 HHN HD4 HB4 HZ4 HDB HQ3 HC3 HP3 HG3 HGM HR3 HK3 HM3 HRL HB3
  go_wp2_with fail
  with_reducible refine HPU.out.mono ?_
  rintro r w6 ⟨rfl,hh6,ha6⟩;have HW6:=Zh (HW5.out.heap hh6 ha6);obtain ⟨nw6,hnw6,hk6⟩:=HW6.out.a.wt;have HND:=Zh hk6.nd;have HL6:=Zh (show Qdr ks (fun _=>none)=ks.length from Qvn ks)
  clear hh6 ha6 HPU HW5 hnw6
  go_wp2_with (at_len;with_reducible refine Qwt rfl _ rfl rfl hk6 ?_)
  clear hk6
  go_wp2_with fail
  rw [←HL6.out]
  go_loopw [12] (fun q W=>∃ (GC:Nat→Prop) (n:Nat) (f:Nat→Nat→Option Value) (dnf hp:Nat→Option Int) (dn:List Bool),q=.int .i64 (Qdr ks dnf:Nat)∧MRW w W GC qb g o N ls TA nt ct tl CA NC cC cl Q L cq mb pb wb rb db gh na n0 n f av ks (Qiv tl dnf) dn hp∧MI N ls av s na dnf hp dn∧∀ b,GC b→G b∨w.heap.size≤b) (fun _ W=>na-doneW db W)
  case atStart=>exact ⟨_,_,_,_,_,_,rfl,HW6.out,HI5.out,HS3.out⟩
  case round =>
   clear HW6 HI5 HS3;obtain ⟨GC,n,f,dnf,hp,dn,rfl,hw,hi,hs⟩:=hrel;have HWr:=Zh hw;have HIr:=Zh hi;have HSB:=Zh hs;have HPO:=Zh (Qso wr hp hw.hh);have hll:Qdr ks dnf≤ks.length:=List.countP_le_length;have hln:=HKN.out;have hcn:=Qfr dn;rw [hi.ld] at hcn;have HNN0:=Zh (show n≤n0+16384 by have:=hw.nn;omega)
   clear hw hi hs hcn
   by_cases hl0:Qdr ks dnf=0
   · have e2:¬((0:Int)<((Qdr ks dnf:Nat):Int)):=by omega
     have HRQ:=Zh (HIr.out.row HOK.out HNI.out (.inr (fun i t ht=>Quc hl0 t ((HKA.out t).1.2 (Zm ht)))));have HWE2:=HWr;clear hl0
     go_wp2_with fail
     refine bodyPost_ret (v:=.slice (some ⟨rb,0,none⟩) nt nt) (by simp [results,results88,go_sem]) rfl ?_;exact ⟨rb,n,f,_,rfl,HRQ.out,HWE2.out.a.rr,HWE2.out.bs.2.2.1,HWE2.out.a.mq,HNN0.out,HWE2.out.a.mc.le (Qbe (fun b hb=>(HSB.out b hb).elim .inl (fun h=>.inr ⟨h,HWE2.out.a.gl b hb⟩))),HWE2.out.nx⟩
   have e2:(0:Int)<((Qdr ks dnf:Nat):Int):=by omega
   obtain ⟨lf,hlf⟩:∃ lf,lf=Qdr ks dnf:=⟨_,rfl⟩;have HLF:=Zh hlf;rw [←hlf] at e2 hll ⊢;clear hl0 hlf
   go_wp2_with fail
   with_reducible refine HPO.out.mono ?_
   rintro e w7 ⟨h7,ha7⟩;have HA7:=Zh ha7;clear ha7
   rcases h7 with ⟨hno,rfl,hh⟩|⟨k,z,hkn,hkz,hmin,rfl,hh⟩
   · have HRQ:=Zh (HIr.out.row (tl:=tl) HOK.out HNI.out (.inl hno))
     have HWE2:=Zh (HWr.out.heap hh HA7.out);clear hno hh HPO
     go_wp2_with fail
     refine bodyPost_ret (v:=.slice (some ⟨rb,0,none⟩) nt nt) (by simp [results,results88,go_sem]) rfl ?_;exact ⟨rb,n,f,_,rfl,HRQ.out,HWE2.out.a.rr,HWE2.out.bs.2.2.1,HWE2.out.a.mq,HNN0.out,HWE2.out.a.mc.le (Qbe (fun b hb=>(HSB.out b hb).elim .inl (fun h=>.inr ⟨h,HWE2.out.a.gl b hb⟩))),HWE2.out.nx⟩
   have HW7:=Zh (HWr.out.heap hh HA7.out);have HMI:=Zh hmin;have HKZ:=Zh hkz;clear hh hmin hkz HPO;have hfree:=HIr.out.free hkn HKZ.out;obtain ⟨xk,hxk⟩:∃ xk,N.ar[k]?=some xk:=⟨_,Zg (by rw [←HNA.out];exact hkn)⟩;have HXK:=Zh hxk;have hkl:k<dn.length:=by rw [HIr.out.ld];exact hkn
   have dk:=HW7.out.a.dd.cellB (i:=k) (Qbl false hkl);have df:=HW7.out.a.dd.frozen k;have HW8:=Zh (HW7.out.done k);have HDN:=Zh hfree.1;have HDK:=Zh hfree.2;have HKL:=Zh hkl;have hkn':(k:Int)<(na:Int):=by omega
   have hk0:(0:Int)≤(k:Int):=by omega
   have HTK:=Zh (show ∀ os cs,MJ N ls av s na k z os cs 0 (upD dnf k z) (fun q=>if q=k then none else hp q) (dn.set k true)∧Quw N ls av k from fun os cs=>HIr.out.take (os:=os) (cs:=cs) HOK.out HP.out HE.out ⟨_,HXS.out⟩ HAV.out hkn HKZ.out HMI.out)
   obtain ⟨nw8,hnw8,hk8⟩:=HW8.out.a.wt;have hmp:=hk8.mpI;clear hfree hxk hkl hk8
   by_cases hks:k∈ks
   · have hf:fK ks k=some 0:=by unfold fK;rw [if_pos hks]
     have HLC:=Zh (show Qdr ks dnf=Qdr ks (upD dnf k z)+1 from Qsu HND.out hks HDN.out)
     have eW:IntKind.i64.wrap ((lf:Int)-1)=(lf:Int)-1:=IntWalk.i64_in _ (by omega);clear hks;have hqd:qb≠db:=fun e=>HW7.out.a.nb.1.2.2.2 (e▸(Qbd.1 HW7.out.a.qr.q3).1)
     have hdq:db≠qb:=fun e=>hqd e.symm
     have q3:=(HW7.out.a.qr.le (Qba _ _)).q3;have q3':=(HW8.out.a.qr.le (Qba _ _)).q3
     go_wp2_with (at_lookup;with_reducible refine Qgc rfl _ _ rfl k rfl hmp rfl (by omega) ?_)
     (refine Qak ?_;intro w8 hw8)
     rw [←hw8] at HW8;clear hw8 dk df hmp q3 q3' hqd hdq
     go_loopw [100] (fun q V=>∃ i:Nat,i≤nt∧q=.int .i64 i∧MRW w V GC qb g o N ls TA nt ct tl CA NC cC cl Q L cq mb pb wb rb db gh na n0 n f av ks (Qrb tl dnf k z i) (dn.set k true) (fun q=>if q=k then none else hp q)) (fun q _=>nt-(intOf q).toNat)
     case atStart=>exact ⟨0,Nat.zero_le _,rfl,by rw [Qyb];exact HW8.out⟩
     case round =>
      clear HW8;obtain ⟨i,hi,rfl,hw⟩:=hrel
      by_cases hlt:i<nt
      rotate_left
      · obtain rfl:nt=i:=by omega
        have i1:¬(nt:Int)<(nt:Int):=by omega
        obtain ⟨w8,rfl⟩:∃ w8,w8=wr:=⟨_,rfl⟩;have HW8:=Zh (show MRW w w8 GC qb g o N ls TA nt ct tl CA NC cC cl Q L cq mb pb wb rb db gh na n0 n f av ks (Qiv tl (upD dnf k z)) (dn.set k true) (fun q=>if q=k then none else hp q) by rw [←rowT_all,HLT.out];exact hw)
        obtain ⟨lx,hlx⟩:∃ lx,lx=Qdr ks (upD dnf k z):=⟨_,rfl⟩;have HLX:=Zh hlx;have elx:(lf:Int)-1=(lx:Int):=by have:=HLC.out;have:=HLF.out;omega
        rw [elx];clear hw hlx elx eW hi hlt;have q0:=(HW8.out.a.qr.le (Qba _ _)).q0
        go_wp2_with fail
        clear q0;with_reducible refine (HTO.out w8 (HW8.out.a.qr.gr.le (Qba _ _)) k xk HXK.out).mono ?_
        rintro e w' ⟨rfl,rfl⟩
        go_wp2_with fail
        with_reducible refine (HLV.out w8 (HW8.out.a.qr.le (Qba _ _)) pb HW8.out.a.pl.r k xk HXK.out).mono ?_
        rintro e w9 ⟨rfl,hb9⟩;have HW9:=Zh (HW8.out.below hb9);have hcl:=Qfr (dn.set k true);rw [List.length_set,HIr.out.ld] at hcl;have hnn:=HW9.out.nn;have HNO:=Zh (HNX.out w9 GC n k f xk HW9.out.a.qr HW9.out.a.nb.1.1 HW9.out.a.mq (by omega) HW9.out.a.mc HXK.out (HTK.out [] []).2);clear hb9 hcl hnn HW8
        go_wp2_with fail
        with_reducible refine HNO.out.mono ?_
        rintro e w10 ⟨O,C,nO,cO,cC',n',os,cs,f',rfl,hnp,hO,hC,hmq,hn',hmc,hx,hnO⟩;have HNN:=Zh (show n'≤n0+(dn.set k true).countP (fun b=>b) by have:=HWr.out.nn;rw [Qct HKL.out HDK.out];omega)
        have HW10:=Zh (HW9.out.nxt hx hmq hmc HNN.out);have HJ10:=Zh (HTK.out os cs).1;obtain ⟨GG,hGG⟩:∃ GG,GG=G2 GC w9 w10:=⟨_,rfl⟩
        have HGS:=Zh (show ∀ b,GG b→G b∨w.heap.size≤b from fun b hb=>by
         rw [hGG] at hb;exact hb.elim (HSB.out b) (fun h=>.inr (Nat.le_trans HW9.out.nx.size h.1)))
        rw [←hGG] at HW10 hO hC;have HO:=Zh hO;have HC:=Zh hC;have HNP:=Zh hnp;clear hGG hO hC hnp hmq hn' hmc hx HNO HTK HW9
        go_wp2_with fail
        obtain ⟨wi,hwi⟩:∃ wi,wi=w10:=⟨_,rfl⟩;subst hwi
        go_loopw [130] (fun ui V=>∃ (i:Nat) (hp2:Nat→Option Int),i≤nO∧ui=.int .i64 i∧MRW w V GG qb g o N ls TA nt ct tl CA NC cC cl Q L cq mb pb wb rb db gh na n0 n' f' av ks (Qiv tl (upD dnf k z)) (dn.set k true) hp2∧MJ N ls av s na k z os cs i (upD dnf k z) hp2 (dn.set k true)∧Le (msk wi GG) (msk V GG)) (fun ui _=>nO-(intOf ui).toNat)
        case atStart=>exact ⟨0,_,Nat.zero_le _,rfl,HW10.out,HJ10.out,fun _ _ h=>h⟩
        case round =>
         clear HW10 HJ10;obtain ⟨i,hp2,hin,rfl,hw,hj,hle⟩:=hrel;have HWi:=Zh hw;have HJi:=Zh hj;have HLi:=Zh hle;clear hw hj hle
         by_cases hlt:i<nO
         rotate_left
         · obtain rfl:i=nO:=by omega
           have j2:¬((i:Int)<(i:Int)):=by omega
           have HIN:=Zh (HJi.out.all HNP.out (by rw [HO.out.1];exact Zn _))
           go_wp2_with fail
           go_roundw
           case rel=>exact ⟨GG,n',f',_,hp2,_,by first|rfl|rw [HLX.out],HWi.out,HIN.out,HGS.out⟩
           case measure =>
            rw [Qfs HWi.out.a.dd,Qfs HWr.out.a.dd,Qct HKL.out HDK.out];have h1:=Qfr (dn.set k true);rw [Qct HKL.out HDK.out,List.length_set,HIr.out.ld] at h1;omega
         obtain ⟨ob,oo,zb,rfl,hzb,cO1⟩:=((HO.out.le HLi.out).le (Qba _ _)).at_ hlt;obtain ⟨pc,po,v,rfl,hv,cC1⟩:=((HC.out.le HLi.out).le (Qba _ _)).at_ hlt;obtain ⟨b,y,rfl,hy,hv0,hv9,hst⟩:=HNP.out.to_ i zb v hzb hv;have hyw:=Qec (HOK.out.arcs y (Zm hy)).w;have hbn:b<na:=by rw [HNA.out];exact (Zs hy).1
         obtain ⟨wy,hwy⟩:∃ wy,wy=y.2.2:=⟨_,rfl⟩;rw [←hwy] at hyw;have hz0:=HJi.out.c0;have hzM:z≤70373039144960:=hz0.2;have j0:(0:Int)≤(i:Int):=by omega
         have j1:(i:Int)<(nO:Int):=by omega
         have q0:=(HWi.out.a.qr.le (Qba _ _)).q0;have HSX:=Zh (show ∀ V,Below wr.heap.size wr V→V.cell? ⟨pc,po+i,none⟩=some (.int .i64 v)∧V.cell? ⟨qb,0,none⟩=some (.pointer (some ⟨g,0,none⟩)) from fun V hV=>⟨Zc hV (Zn _) cC1,Zc hV (Zn _) q0⟩)
         have HGW:=Zh (show Calls prog 72 #[.pointer (some ⟨g,0,none⟩),.int .i64 b] wr.drew fun e w'=>e=.returned (.int .i64 wy)∧wr.drew=w' from by rw [hwy];exact HWE.out _ ((HWi.out.a.qr.gr.le (Qba _ _)).below (Zr _ _).drew) b y hy)
         obtain ⟨w11,hw11⟩:∃ w11,w11=(wr.alloc (.cells #[.int .i64 z,.int .i64 v,.int .i64 wy] 2)).drew:=⟨_,rfl⟩;have hb11:Below wr.heap.size wr w11:=by rw [hw11];exact ((Zr _ _).alloc (Zn _) _).drew
         have hrd:RdI w11 (some ⟨wr.heap.size,0,none⟩) 3 [z,v,wy]:=by rw [hw11];exact Blk.rdI (t:=2) (l:=[z,v,wy]) (Blk.new wr 2 (Qbu [z,v,wy])).drew rfl
         have HSU:=Zh (Qjt _ 3 w11 z v wy hrd ⟨hz0.1,by omega⟩ ⟨hv0,hv9⟩ ⟨by omega,by omega⟩);obtain ⟨far,hfar⟩:∃ far,far=Qet (Qet z v) wy:=⟨_,rfl⟩;rw [←hfar] at HSU;have HFR:=Zh hfar;have HWY:=Zh hwy;have HY:=Zh hy;have HZB:=Zh hzb;have HV:=Zh hv;have HST:=Zh hst;have HB11:=Zh hb11;have HW11:=Zh hw11;have HYW:=Zh hyw;clear hzb hv hy hst hwy hfar hb11 hw11 hrd hyw
         go_wp2_with fail
         refine wp_region_held_drew (S:=fun V=>Below wr.heap.size wr V) (by kernel_rfl) (Zr _ _).drew (fun _=>?_);refine tz 0 135 ?_;refine tz 1 136 ?_;refine tz 2 137 ?_;refine tz 3 138 ?_;refine tz 4 139 ?_;refine tz 5 140 ?_;refine tz 6 141 ?_;refine tz 7 142 ?_;refine tz 8 143 ?_;refine tz 9 144 ?_;refine Zk 10 (fun K hK=>?_);go_simp;with_reducible refine HGW.out.mono ?_
         rintro e w' ⟨rfl,rfl⟩;go_simp;refine hK.out _ _ (Zr _ _).drew (fun _=>?_);clear hK K;refine Zk 11 (fun K hK=>?_);go_simp;rw [←HW11.out];refine hK.out _ _ HB11.out (fun _=>?_);clear hK K;refine Zk 12 (fun K hK=>?_);go_simp;with_reducible refine HSU.out.mono ?_
         rintro e w' ⟨rfl,rfl⟩;go_simp;refine hK.out _ _ HB11.out (fun _=>?_);clear hK K;refine tz 13 24 ?_;refine Zd ?_;have HWj:=Zh (HWi.out.below HB11.out);have HLj:=Zh (HLi.out.trans (Qbf.msk (G:=GG) (Qbf.below HB11.out)));clear HSX HGW HSU HW11 cO1 cC1 q0
         by_cases hno:v=1152921504606846976∨wy=1152921504606846976
         · have hff:¬far<1152921504606846976:=by
            have:=HYW.out;rw [HFR.out,Qpe hz0.1 hv0 (by omega) (by omega)];omega
           have HJX:=Zh (HJi.out.skip HZB.out HV.out HY.out (by rw [←HWY.out];exact hno));have HWX:=HWj;have HLX:=HLj;clear hno
           go_wp2_with fail
           go_roundw
           case rel=>exact ⟨i+1,_,by omega,by go_num,HWX.out,HJX.out,HLX.out⟩
           case measure=>simp [intOf];omega
         · have HS:=Zh (HST.out (fun e=>hno (.inl e)) (fun e=>hno (.inr (by rw [HWY.out];exact e))))
           have hsb:=HS.out.bd HOK.out;rw [←HWY.out] at hsb;have hyw:=HYW.out;have hfe:far=z+(v+wy):=by rw [HFR.out,Qry (by omega) (by omega)]
           have hff:far<1152921504606846976:=by omega
           have hf0:0≤far:=by omega
           have HFE:=Zh hfe;have hbl:b<(dn.set k true).length:=by rw [HJi.out.ld];exact hbn
           have db0:=HWj.out.a.dd.cellB (i:=b) (Qbl false hbl);have k0:(0:Int)≤(b:Int):=by omega
           have k1:(b:Int)<(na:Int):=by omega
           obtain ⟨dd,hdd⟩:∃ dd,dd=(dn.set k true).getD b false:=⟨_,rfl⟩;rw [←hdd] at db0;have HDD:=Zh hdd;clear hno hsb hyw hfe hbl hdd
           cases dd with
           | true =>
            have HJX:=Zh (HJi.out.off HZB.out HV.out HY.out HS.out hbn HDD.out.symm);have HWX:=HWj;have HLX:=HLj
            go_wp2_with fail
            go_roundw
            case rel=>exact ⟨i+1,_,by omega,by go_num,HWX.out,HJX.out,HLX.out⟩
            case measure=>simp [intOf];omega
           | false =>
            have hput:=HJi.out.put HOK.out HZB.out HV.out HY.out HS.out hbn HDD.out.symm;rw [←HWY.out,←HFE.out] at hput;have HJP:=Zh hput;have HPU:=Zh (Qhi w11 hp2 HWj.out.hh b hbn far hf0 (by omega));clear hput
            go_wp2_with fail
            with_reducible refine HPU.out.mono ?_
            rintro e w12 ⟨rfl,hh12,ha12⟩;have HW12:=Zh (HWj.out.heap hh12 ha12);have HL12:=Zh (HLj.out.trans (Qbf.msk (G:=GG) (ha12.kept.mono (fun _ hb=>.inr (.inl hb)))));clear hh12 ha12 HPU db0;have HJX:=HJP;have HWX:=HW12;have HLX:=HL12
            go_wp2_with fail
            go_roundw
            case rel=>exact ⟨i+1,_,by omega,by go_num,HWX.out,HJX.out,HLX.out⟩
            case measure=>simp [intOf];omega
      obtain ⟨tb,to,t,hTA,ht,ctt⟩:=(hw.a.qr.le (Qba _ _)).ts.at_ hlt;obtain ⟨a,y,rfl,hy⟩:=HTS.out i t ht;have i1:(i:Int)<(nt:Int):=by omega
      have i2:(0:Int)≤(i:Int):=by omega
      have HWi:=Zh hw;subst hTA
      by_cases hak:a=k
      · subst hak
        obtain ⟨ov,hov⟩:∃ ov,(Qrb tl dnf a z i)[i]?=some ov:=⟨_,Zg (by rw [rowT_len (by rw [HLT.out];omega),HLT.out];exact hlt)⟩;have r0:=hw.a.rr.cellI hov;have rz:=hw.a.rr.frozen i;have HWX:=Zh (show MRW w (wr.setCell ⟨rb,i,none⟩ (.int .i64 z)) GC qb g o N ls (some ⟨tb,to,none⟩) nt ct tl CA NC cC cl Q L cq mb pb wb rb db gh na n0 n f av ks (Qrb tl dnf a z (i+1)) (dn.set a true) (fun q=>if q=a then none else hp q) from rowT_hit ht▸hw.row_ i z)
        clear hw hov ht hy
        go_wp2_with fail
        go_roundw
        case rel=>exact ⟨i+1,by omega,by go_num,HWX.out⟩
        case measure=>simp [intOf];omega
      · have hne:¬(a:Int)=(k:Int):=by omega
        have HWX:=Zh (Qxs (dnf:=dnf) (c:=z) ht hak);clear hw ht hy hak
        go_wp2_with fail
        go_roundw
        case rel=>exact ⟨i+1,by omega,by go_num,by rw [←HWX.out];exact HWi.out⟩
        case measure=>simp [intOf];omega
   · have hf:fK ks k=none:=by unfold fK;rw [if_neg hks]
     have HLC:=Zh (show Qdr ks (upD dnf k z)=Qdr ks dnf from Qkq hks)
     have hro:Qiv tl (upD dnf k z)=Qiv tl dnf:=rowV_off (fun i h=>hks ((HKA.out k).1.2 (Zm h))) (fun i t ht=>by obtain ⟨a,y,e,_⟩:=HTS.out i t ht;exact ⟨a,e⟩);rw [←hro] at HW8;clear hks hro;have hqd:qb≠db:=fun e=>HW7.out.a.nb.1.2.2.2 (e▸(Qbd.1 HW7.out.a.qr.q3).1)
     have hdq:db≠qb:=fun e=>hqd e.symm
     have q0:=(HW7.out.a.qr.le (Qba _ _)).q0;have q0':=(HW8.out.a.qr.le (Qba _ _)).q0;obtain ⟨lx,hlx⟩:∃ lx,lx=Qdr ks (upD dnf k z):=⟨_,rfl⟩;have HLX:=Zh hlx;have elx:lf=lx:=by have:=HLC.out;have:=HLF.out;omega
     subst elx
     go_wp2_with (at_lookup;with_reducible refine Qgc rfl _ _ rfl k rfl hmp rfl (by omega) ?_)
     (refine Qac ?_;intro w8 hw8)
     rw [←hw8] at HW8;clear hw8 dk df hlx hmp q0 q0' hqd hdq;with_reducible refine (HTO.out w8 (HW8.out.a.qr.gr.le (Qba _ _)) k xk HXK.out).mono ?_
     rintro e w' ⟨rfl,rfl⟩
     go_wp2_with fail
     with_reducible refine (HLV.out w8 (HW8.out.a.qr.le (Qba _ _)) pb HW8.out.a.pl.r k xk HXK.out).mono ?_
     rintro e w9 ⟨rfl,hb9⟩;have HW9:=Zh (HW8.out.below hb9);have hcl:=Qfr (dn.set k true);rw [List.length_set,HIr.out.ld] at hcl;have hnn:=HW9.out.nn;have HNO:=Zh (HNX.out w9 GC n k f xk HW9.out.a.qr HW9.out.a.nb.1.1 HW9.out.a.mq (by omega) HW9.out.a.mc HXK.out (HTK.out [] []).2);clear hb9 hcl hnn HW8
     go_wp2_with fail
     with_reducible refine HNO.out.mono ?_
     rintro e w10 ⟨O,C,nO,cO,cC',n',os,cs,f',rfl,hnp,hO,hC,hmq,hn',hmc,hx,hnO⟩;have HNN:=Zh (show n'≤n0+(dn.set k true).countP (fun b=>b) by have:=HWr.out.nn;rw [Qct HKL.out HDK.out];omega)
     have HW10:=Zh (HW9.out.nxt hx hmq hmc HNN.out);have HJ10:=Zh (HTK.out os cs).1;obtain ⟨GG,hGG⟩:∃ GG,GG=G2 GC w9 w10:=⟨_,rfl⟩
     have HGS:=Zh (show ∀ b,GG b→G b∨w.heap.size≤b from fun b hb=>by
      rw [hGG] at hb;exact hb.elim (HSB.out b) (fun h=>.inr (Nat.le_trans HW9.out.nx.size h.1)))
     rw [←hGG] at HW10 hO hC;have HO:=Zh hO;have HC:=Zh hC;have HNP:=Zh hnp;clear hGG hO hC hnp hmq hn' hmc hx HNO HTK HW9
     go_wp2_with fail
     obtain ⟨wi,hwi⟩:∃ wi,wi=w10:=⟨_,rfl⟩;subst hwi
     go_loopw [130] (fun ui V=>∃ (i:Nat) (hp2:Nat→Option Int),i≤nO∧ui=.int .i64 i∧MRW w V GG qb g o N ls TA nt ct tl CA NC cC cl Q L cq mb pb wb rb db gh na n0 n' f' av ks (Qiv tl (upD dnf k z)) (dn.set k true) hp2∧MJ N ls av s na k z os cs i (upD dnf k z) hp2 (dn.set k true)∧Le (msk wi GG) (msk V GG)) (fun ui _=>nO-(intOf ui).toNat)
     case atStart=>exact ⟨0,_,Nat.zero_le _,rfl,HW10.out,HJ10.out,fun _ _ h=>h⟩
     case round =>
      clear HW10 HJ10;obtain ⟨i,hp2,hin,rfl,hw,hj,hle⟩:=hrel;have HWi:=Zh hw;have HJi:=Zh hj;have HLi:=Zh hle;clear hw hj hle
      by_cases hlt:i<nO
      rotate_left
      · obtain rfl:i=nO:=by omega
        have j2:¬((i:Int)<(i:Int)):=by omega
        have HIN:=Zh (HJi.out.all HNP.out (by rw [HO.out.1];exact Zn _))
        go_wp2_with fail
        go_roundw
        case rel=>exact ⟨GG,n',f',_,hp2,_,by first|rfl|rw [HLX.out],HWi.out,HIN.out,HGS.out⟩
        case measure =>
         rw [Qfs HWi.out.a.dd,Qfs HWr.out.a.dd,Qct HKL.out HDK.out];have h1:=Qfr (dn.set k true);rw [Qct HKL.out HDK.out,List.length_set,HIr.out.ld] at h1;omega
      obtain ⟨ob,oo,zb,rfl,hzb,cO1⟩:=((HO.out.le HLi.out).le (Qba _ _)).at_ hlt;obtain ⟨pc,po,v,rfl,hv,cC1⟩:=((HC.out.le HLi.out).le (Qba _ _)).at_ hlt;obtain ⟨b,y,rfl,hy,hv0,hv9,hst⟩:=HNP.out.to_ i zb v hzb hv;have hyw:=Qec (HOK.out.arcs y (Zm hy)).w;have hbn:b<na:=by rw [HNA.out];exact (Zs hy).1
      obtain ⟨wy,hwy⟩:∃ wy,wy=y.2.2:=⟨_,rfl⟩;rw [←hwy] at hyw;have hz0:=HJi.out.c0;have hzM:z≤70373039144960:=hz0.2;have j0:(0:Int)≤(i:Int):=by omega
      have j1:(i:Int)<(nO:Int):=by omega
      have q0:=(HWi.out.a.qr.le (Qba _ _)).q0;have HSX:=Zh (show ∀ V,Below wr.heap.size wr V→V.cell? ⟨pc,po+i,none⟩=some (.int .i64 v)∧V.cell? ⟨qb,0,none⟩=some (.pointer (some ⟨g,0,none⟩)) from fun V hV=>⟨Zc hV (Zn _) cC1,Zc hV (Zn _) q0⟩)
      have HGW:=Zh (show Calls prog 72 #[.pointer (some ⟨g,0,none⟩),.int .i64 b] wr.drew fun e w'=>e=.returned (.int .i64 wy)∧wr.drew=w' from by rw [hwy];exact HWE.out _ ((HWi.out.a.qr.gr.le (Qba _ _)).below (Zr _ _).drew) b y hy)
      obtain ⟨w11,hw11⟩:∃ w11,w11=(wr.alloc (.cells #[.int .i64 z,.int .i64 v,.int .i64 wy] 2)).drew:=⟨_,rfl⟩;have hb11:Below wr.heap.size wr w11:=by rw [hw11];exact ((Zr _ _).alloc (Zn _) _).drew
      have hrd:RdI w11 (some ⟨wr.heap.size,0,none⟩) 3 [z,v,wy]:=by rw [hw11];exact Blk.rdI (t:=2) (l:=[z,v,wy]) (Blk.new wr 2 (Qbu [z,v,wy])).drew rfl
      have HSU:=Zh (Qjt _ 3 w11 z v wy hrd ⟨hz0.1,by omega⟩ ⟨hv0,hv9⟩ ⟨by omega,by omega⟩);obtain ⟨far,hfar⟩:∃ far,far=Qet (Qet z v) wy:=⟨_,rfl⟩;rw [←hfar] at HSU;have HFR:=Zh hfar;have HWY:=Zh hwy;have HY:=Zh hy;have HZB:=Zh hzb;have HV:=Zh hv;have HST:=Zh hst;have HB11:=Zh hb11;have HW11:=Zh hw11;have HYW:=Zh hyw;clear hzb hv hy hst hwy hfar hb11 hw11 hrd hyw
      go_wp2_with fail
      refine wp_region_held_drew (S:=fun V=>Below wr.heap.size wr V) (by kernel_rfl) (Zr _ _).drew (fun _=>?_);refine tz 0 135 ?_;refine tz 1 136 ?_;refine tz 2 137 ?_;refine tz 3 138 ?_;refine tz 4 139 ?_;refine tz 5 140 ?_;refine tz 6 141 ?_;refine tz 7 142 ?_;refine tz 8 143 ?_;refine tz 9 144 ?_;refine Zk 10 (fun K hK=>?_);go_simp;with_reducible refine HGW.out.mono ?_
      rintro e w' ⟨rfl,rfl⟩;go_simp;refine hK.out _ _ (Zr _ _).drew (fun _=>?_);clear hK K;refine Zk 11 (fun K hK=>?_);go_simp;rw [←HW11.out];refine hK.out _ _ HB11.out (fun _=>?_);clear hK K;refine Zk 12 (fun K hK=>?_);go_simp;with_reducible refine HSU.out.mono ?_
      rintro e w' ⟨rfl,rfl⟩;go_simp;refine hK.out _ _ HB11.out (fun _=>?_);clear hK K;refine tz 13 24 ?_;refine Zd ?_;have HWj:=Zh (HWi.out.below HB11.out);have HLj:=Zh (HLi.out.trans (Qbf.msk (G:=GG) (Qbf.below HB11.out)));clear HSX HGW HSU HW11 cO1 cC1 q0
      by_cases hno:v=1152921504606846976∨wy=1152921504606846976
      · have hff:¬far<1152921504606846976:=by
         have:=HYW.out;rw [HFR.out,Qpe hz0.1 hv0 (by omega) (by omega)];omega
        have HJX:=Zh (HJi.out.skip HZB.out HV.out HY.out (by rw [←HWY.out];exact hno));have HWX:=HWj;have HLX:=HLj;clear hno
        go_wp2_with fail
        go_roundw
        case rel=>exact ⟨i+1,_,by omega,by go_num,HWX.out,HJX.out,HLX.out⟩
        case measure=>simp [intOf];omega
      · have HS:=Zh (HST.out (fun e=>hno (.inl e)) (fun e=>hno (.inr (by rw [HWY.out];exact e))))
        have hsb:=HS.out.bd HOK.out;rw [←HWY.out] at hsb;have hyw:=HYW.out;have hfe:far=z+(v+wy):=by rw [HFR.out,Qry (by omega) (by omega)]
        have hff:far<1152921504606846976:=by omega
        have hf0:0≤far:=by omega
        have HFE:=Zh hfe;have hbl:b<(dn.set k true).length:=by rw [HJi.out.ld];exact hbn
        have db0:=HWj.out.a.dd.cellB (i:=b) (Qbl false hbl);have k0:(0:Int)≤(b:Int):=by omega
        have k1:(b:Int)<(na:Int):=by omega
        obtain ⟨dd,hdd⟩:∃ dd,dd=(dn.set k true).getD b false:=⟨_,rfl⟩;rw [←hdd] at db0;have HDD:=Zh hdd;clear hno hsb hyw hfe hbl hdd
        cases dd with
        | true =>
         have HJX:=Zh (HJi.out.off HZB.out HV.out HY.out HS.out hbn HDD.out.symm);have HWX:=HWj;have HLX:=HLj
         go_wp2_with fail
         go_roundw
         case rel=>exact ⟨i+1,_,by omega,by go_num,HWX.out,HJX.out,HLX.out⟩
         case measure=>simp [intOf];omega
        | false =>
         have hput:=HJi.out.put HOK.out HZB.out HV.out HY.out HS.out hbn HDD.out.symm;rw [←HWY.out,←HFE.out] at hput;have HJP:=Zh hput;have HPU:=Zh (Qhi w11 hp2 HWj.out.hh b hbn far hf0 (by omega));clear hput
         go_wp2_with fail
         with_reducible refine HPU.out.mono ?_
         rintro e w12 ⟨rfl,hh12,ha12⟩;have HW12:=Zh (HWj.out.heap hh12 ha12);have HL12:=Zh (HLj.out.trans (Qbf.msk (G:=GG) (ha12.kept.mono (fun _ hb=>.inr (.inl hb)))));clear hh12 ha12 HPU db0;have HJX:=HJP;have HWX:=HW12;have HLX:=HL12
         go_wp2_with fail
         go_roundw
         case rel=>exact ⟨i+1,_,by omega,by go_num,HWX.out,HJX.out,HLX.out⟩
         case measure=>simp [intOf];omega
end Go.Proofs.YteaoiabikjnkeaaGreatDoor
