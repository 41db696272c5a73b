/- Parts of the proof: InP, In2. -/
import Derived.Test.YtgkeolddpielpaaGreatM13
namespace Go.Proofs.YtgkeolddpielpaaGreat
open Go.RowKit

theorem DijP.gone {St : StepR} {s : Nat} {dn hp : Nat → Option Int} {p : Nat} {c : Int} {Gone Gone' : Nat → Int → Prop} (h : DijP St s dn hp p c Gone) (hg : ∀ r d, St p r d → Gone' r d → Gone r d) : DijP St s dn hp p c Gone' :=
 ⟨h.dr, h.dm, h.hr, h.off, fun q e r d h1 h2 => by
  rcases h.on q e r d h1 h2 with ⟨h3, h4⟩ | h3
  · subst h3; exact .inl ⟨rfl, fun h5 => h4 (hg r d h2 h5)⟩
  · exact .inr h3, h.st, h.at_⟩
def StN (N : NetD) (mk : List Bool) (s na : Nat) : StepR := fun a b d => ∃ y, N.ar[b]? = some y ∧ turnN N (if a = na then s else a) b ≠ 1152921504606846976 ∧ y.2.2 ≠ 1152921504606846976 ∧
 mk.getD y.1.toNat false = true ∧ mk.getD y.2.1.toNat false = true ∧ d = turnN N (if a = na then s else a) b + y.2.2
theorem stepF_dj {N : NetD} {mk dn : List Bool} {s na t p b : Nat} {dnf hp : Nat → Option Int} {c best : Int} {Gone : Nat → Int → Prop} (h : DijP (StN N mk s na) na dnf hp p c Gone)
 (hdn : ∀ q, q < na → (dn.getD q false = true ↔ dnf q ≠ none)) (hb : b < na) (hn : na = N.ar.length) :
 DijP (StN N mk s na) na dnf (stepF N t mk dn (if p = na then s else p) c (best, hp) b).2 p c (fun r e => Gone r e ∨ r = b) := by
 obtain ⟨y, hy⟩ : ∃ y, N.ar[b]? = some y := ⟨_, List.getElem?_eq_getElem (by omega)⟩
 unfold stepF
 rw [hy]
 by_cases h1 : turnN N (if p = na then s else p) b = 1152921504606846976
 · simp only [if_pos h1]
   refine h.gone (fun r d hs hg => hg.elim id (fun e => ?_))
   subst e
   obtain ⟨_, _, h2, _⟩ := hs
   exact absurd h1 h2
 · simp only [if_neg h1]
   by_cases h2 : y.2.2 ≠ 1152921504606846976 ∧ mk.getD y.1.toNat false = true ∧ mk.getD y.2.1.toNat false = true
   · obtain ⟨h2, h3, h4⟩ := h2
     have hst : StN N mk s na p b (turnN N (if p = na then s else p) b + y.2.2) := ⟨y, hy, h1, h2, h3, h4, rfl⟩
     have huniq : ∀ d, StN N mk s na p b d → d = turnN N (if p = na then s else p) b + y.2.2 := fun d ⟨y', hy', _, _, _, _, hd⟩ => by rw [hy] at hy'; cases hy'; exact hd
     by_cases h5 : dn.getD b false = true
     · have hne := (hdn b hb).1 h5
       rw [if_neg (fun h6 => by rw [h5] at h6; exact absurd h6.2.1 (by simp))]
       refine (h.put hst (.inl ⟨hne, fun e he => h.dm b e he _ ((h.dr p c h.at_).step hst), rfl⟩)).gone (fun r d hs hg => hg.elim .inl (fun e => .inr ⟨e, ?_⟩))
       subst e
       exact huniq d hs
     · have h6 : dn.getD b false = false := by simpa using h5
       rw [if_pos ⟨h2, h6, h3, h4⟩]
       have hno : dnf b = none := by
        cases hd : dnf b with
        | none => rfl
        | some e => exact absurd ((hdn b hb).2 (by rw [hd]; simp)) h5
       have hsum : c + turnN N (if p = na then s else p) b + y.2.2 = c + (turnN N (if p = na then s else p) b + y.2.2) := by omega
       refine (h.put (hp' := putH hp b (c + turnN N (if p = na then s else p) b + y.2.2)) hst (.inr ⟨hno, fun r hr => by unfold putH; rw [if_neg hr], ?_⟩)).gone (fun r d hs hg => hg.elim .inl (fun e => .inr ⟨e, ?_⟩))
       · rw [hsum]
         unfold putH
         rw [if_pos rfl]
         cases hv : hp b with
         | none => exact .inr ⟨fun e he => (by cases he), rfl⟩
         | some x =>
          by_cases hx : x ≤ c + (turnN N (if p = na then s else p) b + y.2.2)
          · exact .inl ⟨x, rfl, hx, by simp [hx]⟩
          · exact .inr ⟨fun e he => (by cases he; omega), by simp [hx]⟩
       · subst e
         exact huniq d hs
   · rw [if_neg (fun h6 => h2 ⟨h6.1, h6.2.2.1, h6.2.2.2⟩)]
     refine h.gone (fun r d hs hg => hg.elim id (fun e => ?_))
     subst e
     obtain ⟨y', hy', _, h7, h8, h9, _⟩ := hs
     rw [hy] at hy'
     cases hy'
     exact absurd ⟨h7, h8, h9⟩ h2
theorem fold_dj {N : NetD} {mk dn : List Bool} {s na t p : Nat} {dnf : Nat → Option Int} {c : Int} (hdn : ∀ q, q < na → (dn.getD q false = true ↔ dnf q ≠ none)) (hn : na = N.ar.length) :
 ∀ (bs : List Nat) (st : Int × (Nat → Option Int)) (Gone : Nat → Int → Prop), (∀ b ∈ bs, b < na) → DijP (StN N mk s na) na dnf st.2 p c Gone →
  DijP (StN N mk s na) na dnf (bs.foldl (stepF N t mk dn (if p = na then s else p) c) st).2 p c (fun r e => Gone r e ∨ r ∈ bs)
 | [], st, Gone, _, h => h.gone (fun r d _ hg => hg.elim id (fun e => by cases e))
 | b :: bs, (best, hp), Gone, hb, h => by
  have h1 := stepF_dj (t := t) (best := best) h hdn (hb b (by simp)) hn
  have h2 := fold_dj (t := t) hdn hn bs _ _ (fun q hq => hb q (by simp [hq])) h1
  refine h2.gone (fun r d _ hg => ?_)
  rcases hg with hg | hg
  · exact .inl (.inl hg)
  · rcases List.mem_cons.1 hg with e | e
    · exact .inl (.inr e)
    · exact .inr e
theorem fold_best {N : NetD} {mk dn : List Bool} {t a : Nat} {c : Int} : ∀ (bs : List Nat) (st : Int × (Nat → Option Int)), (∀ b ∈ bs, ∃ y, N.ar[b]? = some y) →
 (bs.foldl (stepF N t mk dn a c) st).1 = if t ∈ bs ∧ turnN N a t ≠ 1152921504606846976 then min st.1 (c + turnN N a t) else st.1
 | [], st, _ => by simp
 | b :: bs, st, hb => by
  rw [List.foldl_cons, fold_best bs _ (fun q hq => hb q (by simp [hq]))]
  obtain ⟨y, hy⟩ := hb b (by simp)
  have h1 : (stepF N t mk dn a c st b).1 = if b = t ∧ turnN N a t ≠ 1152921504606846976 then min st.1 (c + turnN N a t) else st.1 := by
   unfold stepF
   rw [hy]
   by_cases e : b = t
   · subst e
     by_cases h2 : turnN N a b = 1152921504606846976
     · simp [h2]
     · simp [h2]
   · by_cases h2 : turnN N a b = 1152921504606846976
     · simp [h2, e]
     · simp [h2, e]
  rw [h1]
  by_cases h2 : turnN N a t = 1152921504606846976
  · simp [h2]
  · by_cases e : b = t
    · subst e
      by_cases h3 : b ∈ bs
      · simp [h2, h3]
      · simp [h2, h3]
    · have e' : ¬ t = b := fun x => e x.symm
      by_cases h3 : t ∈ bs
      · simp [h2, h3, e]
      · simp [h2, h3, e, e']
end Go.Proofs.YtgkeolddpielpaaGreat

namespace Go.Proofs.YtgkeolddpielpaaGreat
open Go.RowKit

attribute [local go_sem ↓] Go.wp_at_zero Go.wp_at_succ

theorem wOk_bd {u : Int} (h : wOk u = true) : u = 1152921504606846976 ∨ (0 ≤ u ∧ u ≤ 2147483648) := by
 unfold wOk at h
 simp only [Bool.or_eq_true, Bool.and_eq_true, decide_eq_true_eq] at h
 omega
theorem getD_or (l : List Int) (k : Nat) (d : Int) : l.getD k d = d ∨ l.getD k d ∈ l := by
 rcases Nat.lt_or_ge k l.length with h | h
 · exact .inr (List.mem_of_getElem? (getD_lt d h))
 · exact .inl (by rw [List.getD_eq_getElem?_getD, List.getElem?_eq_none h]; rfl)
theorem turnN_bd {N : NetD} (h : NetOk N) (a b : Nat) : turnN N a b = 1152921504606846976 ∨ (0 ≤ turnN N a b ∧ turnN N a b ≤ 2147483648) := by
 unfold turnN
 split
 · split
   · split
     · split
       · rename_i t ht
         rcases getD_or t.costs ((plcOf N.ar a _).1.toNat * t.outs.toNat + (plcOf N.ar b _).2.toNat) 1152921504606846976 with h1 | h1
         · exact .inl h1
         · exact wOk_bd ((h.tabs t (List.mem_of_getElem? ht)).ok _ h1)
       · exact .inl rfl
     · exact .inl rfl
   · exact .inl rfl
 · exact .inl rfl
set_option maxHeartbeats 2000000 in
theorem inStep_ok (W0 w : World) (K : Nat → Prop) (g : Nat) (N : NetD) (cg ct cd cm ci ch cb gh db t na : Nat) (A : Option Addr) (n c : Nat) (mk dn : List Bool) (best : Int) (hp : Nat → Option Int)
 (hR : InR (msk W0 K) g N cg ct cd cm ci ch gh db t na A n c mk) (hW : InW W0 w K cb db gh na best dn hp) (a : Nat) (x : Tri) (hx : N.ar[a]? = some x) (z : Int) (hz0 : 0 ≤ z) (hz : z ≤ 500000000000000000) (hok : NetOk N) :
 Calls Tryz.prog 117 (#[.int .i64 a, .int .i64 z] ++ #[.pointer (some ⟨cg, 0, none⟩), .pointer (some ⟨ct, 0, none⟩), .pointer (some ⟨cb, 0, none⟩), .pointer (some ⟨cd, 0, none⟩), .pointer (some ⟨cm, 0, none⟩), .pointer (some ⟨ch, 0, none⟩)]) w
  fun e w' => e = .returned (.tuple #[]) ∧ (∃ bs : List Nat, nis bs = idx (·.1) N.ar x.2.1 ∧ InW W0 w' K cb db gh na (bs.foldl (stepF N t mk dn a z) (best, hp)).1 dn (bs.foldl (stepF N t mk dn a z) (best, hp)).2) ∧ Aft K w w' := by
 have hxo := hok.arcs x (List.mem_of_getElem? hx)
 obtain ⟨v, hv⟩ : ∃ v : Nat, x.2.1 = (v : Int) := ⟨x.2.1.toNat, by have := hxo.g0; omega⟩
 have hvn : v < N.vs.length := by have := hxo.g1; omega
 have hRw := hR.le (Le.kept hW.kept)
 have g0 := hRw.g0
 have HTO := Lib.hid (fun V (hV : Below w.heap.size w V) => gTo_ok g a N x V (hRw.gr.below hV) hx)
 have HOU := Lib.hid (fun V (hV : Below w.heap.size w V) => gOuts_ok g v N V (hRw.gr.below hV) hvn)
 have HSX := Lib.hid (show ∀ V, Below w.heap.size w V → V.cell? ⟨cg, 0, none⟩ = some (.pointer (some ⟨g, 0, none⟩)) from fun V hV => Below.cellOf hV (Nat.le_refl _) g0)
 have HW := Lib.hid hW
 have HR := Lib.hid hR
 clear hR hW hRw g0
 go_enter Tryz.func117, Tryz.ntmps117
 go_wp2_with fail
 refine wp_region_held_drew (S := fun V => Below w.heap.size w V) (by kernel_rfl) (Below.refl _ _).drew (fun _ => ?_)
 refine tk 0 14 (h := ⟨_, tv, ?_⟩)
 simp only [pE, List.set]
 refine tk 1 15 (h := ⟨_, tv, ?_⟩)
 simp only [pE, List.set]
 refine tk 2 16 (h := ⟨_, tv, ?_⟩)
 simp only [pE, List.set]
 refine tk 6 20 (h := ⟨_, tv, ?_⟩)
 simp only [pE, List.set]
 refine wpAnyH_ready (rs := [3]) (by kernel_rfl) (by simp) ?_
 refine AllReadyH.cons (o := _) rfl (fun K hK => ?_) AllReadyH.nil
 go_simp
 with_reducible refine (HTO.out _ bELt).mono ?_
 rintro e w' ⟨rfl, rfl⟩
 rw [hv]
 go_simp
 refine hK.out _ _ bELt (fun _ => ?_)
 clear hK K
 refine wpAnyH_ready (rs := [4]) (by kernel_rfl) (by simp) ?_
 refine AllReadyH.cons (o := _) rfl (fun K hK => ?_) AllReadyH.nil
 go_simp
 with_reducible refine (HOU.out _ bELt).mono ?_
 rintro e w1 ⟨Ao, no, co, rfl, ho, hb1⟩
 have hbl : Below w.heap.size w w1 := (Below.refl _ w).drew.trans (hb1.mono (Nat.le_refl _))
 go_simp
 refine hK.out _ _ hbl (fun _ => ?_)
 clear hK K
 refine tk 5 19 (h := ⟨_, tv, ?_⟩)
 simp only [pE, List.set]
 refine wpAnyH_done (by kernel_rfl) ?_ _
 have HO := Lib.hid ho
 have HB := Lib.hid hbl
 clear ho hb1 hbl
 obtain ⟨bs, hbs, hbm⟩ := nis_idx (·.1) N.ar x.2.1
 rw [← hv, ← hbs] at HO
 have hno : bs.length = no := by have := HO.out.1; simpa [icells, nis] using this
 have hnl : no ≤ 16384 := by
  have h1 : bs.length = (idx (·.1) N.ar x.2.1).length := by rw [← hbs, nis_len]
  have h2 := idx_bd (·.1) N.ar N.ar.length x.2.1
  rw [List.take_length] at h2
  have := hok.la
  omega
 have HI0 := Lib.hid (HW.out.on HB.out HO.out)
 have HRL := Lib.hid (show InR (msk w1 (fun b => K b ∨ blkOf Ao = some b)) g N cg ct cd cm ci ch gh db t na A n c mk from
  HR.out.le ((Kept.msk (HW.out.below HB.out).kept).trans (msk_mono (fun _ hb => .inl hb))))
 have HEL := Lib.hid (show ∀ W, Kept (fun b => K b ∨ blkOf Ao = some b) w1 W → ∀ (i : Nat) (b : Nat), bs[i]? = some b → ∃ bo, Ao = some ⟨bo, 0, none⟩ ∧ W.cell? ⟨bo, i, none⟩ = some (.int .i64 (b : Int)) from fun W hK i b hb => by
  have hi := (List.getElem?_eq_some_iff.1 hb).1
  obtain ⟨bo, cur, e, _, hblk, _, _, hcell⟩ := HO.out.block (by omega)
  refine ⟨bo, e, ?_⟩
  have h1 : W.heap[bo]? = w1.heap[bo]? := hK bo (.inr (by rw [e]; rfl)) hblk.lt
  have h2 : w1.cell? ⟨bo, i, none⟩ = some (.int .i64 (b : Int)) := by
   rw [hblk.cell]
   exact hcell i _ (icells_get (nis_get hb))
  rw [World.cell?_of_block (w := w1) h1]
  exact h2)
 go_wp2_with fail
 go_loopw [20] (fun q W => ∃ i : Nat, q = .int .i64 i ∧ i ≤ no ∧ InW w1 W (fun b => K b ∨ blkOf Ao = some b) cb db gh na ((bs.take i).foldl (stepF N t mk dn a z) (best, hp)).1 dn ((bs.take i).foldl (stepF N t mk dn a z) (best, hp)).2 ∧ Aft (fun b => K b ∨ blkOf Ao = some b) w1 W) (fun q _ => no - (intOf q).toNat)
 case atStart => exact ⟨0, by go_num, Nat.zero_le _, HI0.out, Aft.refl _ _⟩
 case round =>
  obtain ⟨i, rfl, hin, hw, ha⟩ := hrel
  by_cases hlt : i < no
  · obtain ⟨b, hb⟩ : ∃ b, bs[i]? = some b := ⟨_, getD_lt 0 (by omega)⟩
    obtain ⟨y, hy, hyv⟩ := hbm b (List.mem_of_getElem? hb)
    have hfold : (bs.take (i + 1)).foldl (stepF N t mk dn a z) (best, hp) = stepF N t mk dn a z ((bs.take i).foldl (stepF N t mk dn a z) (best, hp)) b := by
     rw [List.take_add_one, hb, List.foldl_append]
     rfl
    generalize hs0 : (bs.take i).foldl (stepF N t mk dn a z) (best, hp) = s0 at hw hfold
    obtain ⟨bo, hAo, he⟩ := HEL.out _ hw.kept i b hb
    have hRr := HRL.out.le (Le.kept hw.kept)
    have g0 := hRr.g0
    have t0 := hRr.t0
    have HTU := Lib.hid (gTurn_ok g a b N x y wr hRr.gr hx hy)
    have i1 : (0 : Int) ≤ (i : Int) := by omega
    have i2 : (i : Int) < (no : Int) := by omega
    have HW1 := Lib.hid hw
    have HA1 := Lib.hid ha
    have HR1 := Lib.hid hRr
    clear hw ha hRr
    subst hAo
    go_wp2_with fail
    with_reducible refine HTU.out.mono ?_
    rintro e w3 ⟨rfl, hb3⟩
    have HW3 := Lib.hid (HW1.out.below hb3)
    have HA3 := Lib.hid (HA1.out.trans (Aft.below hb3 (fun b hb => by have := HW1.out.kl b hb; have := HW1.out.size; omega)))
    have HR3 := Lib.hid (HR1.out.le (Le.below hb3))
    clear hb3 HW1 HA1 HR1 HTU g0 t0
    have t0 := HR3.out.t0
    have g0 := HR3.out.g0
    by_cases hinf : turnN N a b = 1152921504606846976
    · have hst : stepF N t mk dn a z s0 b = s0 := by unfold stepF; rw [hy]; simp [hinf]
      rw [hst] at hfold
      have e1 : (turnN N a b == 1152921504606846976) = true := by simp [hinf]
      go_wp2_with fail
      go_roundw
      case rel => exact ⟨i + 1, by go_num, by omega, by rw [hfold]; exact HW3.out, HA3.out⟩
      case measure => simp [intOf]; omega
    · have e1 : (turnN N a b == 1152921504606846976) = false := by simp [hinf]
      have hbd : 0 ≤ turnN N a b ∧ turnN N a b ≤ 2147483648 := (turnN_bd hok a b).resolve_left hinf
      by_cases hbt : b = t
      · subst hbt
        have e2 : ((b : Int) == (b : Int)) = true := by simp
        have b0 : w3.cell? ⟨cb, 0, none⟩ = some (.int .i64 s0.1) := by rw [HW3.out.b0.cell]; rfl
        have bf : w3.frozen? ⟨cb, 0, none⟩ = false := HW3.out.b0.frozen 0
        have HAD := Lib.hid (fun V => costAdd_ok V z (turnN N a b) hz0 hbd.1 (by omega))
        go_wp2_with fail
        refine wp_region_K 5 (S := fun V => V = w3.drew) (by kernel_rfl) rfl (fun _ => ?_)
        refine tkK 0 33 (h := ⟨_, tv, ?_⟩)
        simp only [pE, List.set]
        refine tkF 1 34 (h := ⟨_, tv, ?_⟩)
        simp only [pE, List.set]
        refine tkF 2 35 (h := ⟨_, tv, ?_⟩)
        simp only [pE, List.set]
        refine wpAnyK_one (i := 3) (by kernel_rfl) (by rfl) rfl (fun K hK => ?_)
        go_simp
        with_reducible refine (HAD.out _).mono ?_
        rintro e w4 ⟨rfl, rfl⟩
        go_simp
        refine hK.out _ _ rfl (fun _ => ?_)
        clear hK K
        refine tkF 4 37 (h := ⟨_, tv, ?_⟩)
        simp only [pE, List.set]
        refine wpAnyK_at (k := 5) (by kernel_rfl) rfl (fun K hK => ?_)
        go_simp
        refine hK.out _ _ ?_
        clear hK K
        refine wpAny_over (by kernel_rfl) ?_ _
        obtain ⟨W5, hW5⟩ : ∃ W5, W5 = (w3.setCell ⟨cb, 0, none⟩ (.int .i64 (min s0.1 (z + turnN N a b)))).drew := ⟨_, rfl⟩
        have HW5 := Lib.hid (show InW w1 W5 _ cb db gh na (min s0.1 (z + turnN N a b)) dn s0.2 by rw [hW5]; exact (HW3.out.best _).below (Below.refl _ _).drew)
        have HA5 := Lib.hid (show Aft (fun b => K b ∨ blkOf (some ⟨bo, 0, none⟩) = some b) w1 W5 by rw [hW5]; exact (HA3.out.set HW3.out.kb.1 _).drew)
        have HR5 := Lib.hid (HRL.out.le (Le.kept HW5.out.kept))
        rw [show (if z + turnN N a b < s0.1 then z + turnN N a b else s0.1) = min s0.1 (z + turnN N a b) by split <;> omega, ← hW5]
        clear hW5 HW3 HA3 HR3 t0 g0 b0 bf HAD
        have t0 := HR5.out.t0
        have g0 := HR5.out.g0
        have HWE := Lib.hid (gWeight_ok g b N y W5 HR5.out.gr hy)
        have hyo := hok.arcs y (List.mem_of_getElem? hy)
        have hbn : b < dn.length := by rw [HW5.out.ld, HR5.out.na]; exact (List.getElem?_eq_some_iff.1 hy).1
        have d0 := HR5.out.d0
        have db0 := HW5.out.dd.cellB (i := b) (getD_lt false hbn)
        have hld := HW5.out.ld
        have j1 : (0 : Int) ≤ (b : Int) := by omega
        have j2 : (b : Int) < (na : Int) := by omega
        go_wp2_with fail
        with_reducible refine HWE.out.mono ?_
        rintro e w6 ⟨rfl, rfl⟩
        clear HWE
        go_wp2_with fail
        by_cases hwi : y.2.2 = 1152921504606846976
        · have HST := Lib.hid (show stepF N b mk dn a z s0 b = ((min s0.1 (z + turnN N a b)), s0.2) by unfold stepF; rw [hy]; simp [hinf, hwi])
          have e3 : (y.2.2 != 1152921504606846976) = false := by simp [hwi]
          refine wp_region_held_drew (S := fun V => V = W5.drew) (by kernel_rfl) rfl (fun _ => ?_)
          refine tk 0 41 (h := ⟨_, tv, ?_⟩)
          simp only [pE, List.set]
          refine tk 1 42 (h := ⟨_, tv, ?_⟩)
          simp only [pE, List.set]
          refine tk 2 43 (h := ⟨_, tv, ?_⟩)
          simp only [pE, List.set]
          refine tu 3 44 (h := ?_)
          simp only [pE, List.set]
          refine tu 4 45 (h := ?_)
          simp only [pE, List.set]
          refine tu 5 46 (h := ?_)
          simp only [pE, List.set]
          refine tu 6 47 (h := ?_)
          simp only [pE, List.set]
          refine tu 7 48 (h := ?_)
          simp only [pE, List.set]
          refine tk 8 49 (h := ⟨_, tv, ?_⟩)
          simp only [pE, List.set]
          refine tk 9 50 (h := ⟨_, tv, ?_⟩)
          simp only [pE, List.set]
          refine tu 10 51 (h := ?_)
          simp only [pE, List.set]
          refine tu 11 52 (h := ?_)
          simp only [pE, List.set]
          refine tu 12 53 (h := ?_)
          simp only [pE, List.set]
          refine tu 13 54 (h := ?_)
          simp only [pE, List.set]
          refine tu 14 55 (h := ?_)
          simp only [pE, List.set]
          refine tk 15 56 (h := ⟨_, tv, ?_⟩)
          simp only [pE, List.set]
          refine tk 16 57 (h := ⟨_, tv, ?_⟩)
          simp only [pE, List.set]
          refine tu 17 58 (h := ?_)
          simp only [pE, List.set]
          refine tu 18 59 (h := ?_)
          simp only [pE, List.set]
          refine tu 19 60 (h := ?_)
          simp only [pE, List.set]
          refine tu 20 61 (h := ?_)
          simp only [pE, List.set]
          refine tu 21 62 (h := ?_)
          simp only [pE, List.set]
          refine tk 22 63 (h := ⟨_, tv, ?_⟩)
          simp only [pE, List.set]
          refine wpAnyH_done (by kernel_rfl) ?_ _
          go_wp2_with fail
          go_roundw
          case rel => exact ⟨i + 1, by go_num, by omega, by rw [hfold, HST.out]; exact HW5.out.below (Below.refl _ W5).drew, HA5.out.trans (Aft.below (Below.refl _ W5).drew (fun b hb => by have := HW5.out.kl b hb; have := HW5.out.size; omega))⟩
          case measure => simp [intOf]; omega
        · have e3 : (y.2.2 != 1152921504606846976) = true := by simp [hwi]
          have hwb := (wOk_bd hyo.w).resolve_left hwi
          refine wp_region_held_drew (S := fun V => V = W5.drew) (by kernel_rfl) rfl (fun _ => ?_)
          by_cases hdn : dn.getD b false = true
          · have HST := Lib.hid (show stepF N b mk dn a z s0 b = ((min s0.1 (z + turnN N a b)), s0.2) by unfold stepF; rw [hy]; simp only [if_neg hinf, hdn]; simp)
            rw [hdn] at db0
            refine tk 0 41 (h := ⟨_, tv, ?_⟩)
            simp only [pE, List.set]
            refine tk 1 42 (h := ⟨_, tv, ?_⟩)
            simp only [pE, List.set]
            refine tk 2 43 (h := ⟨_, tv, ?_⟩)
            simp only [pE, List.set]
            refine tk 3 44 (h := ⟨_, tv, ?_⟩)
            simp only [pE, List.set]
            refine tk 4 45 (h := ⟨_, tv, ?_⟩)
            simp only [pE, List.set]
            refine tk 5 46 (h := ⟨_, tv, ?_⟩)
            simp only [pE, List.set]
            refine tk 6 47 (h := ⟨_, tv, ?_⟩)
            simp only [pE, List.set]
            refine tk 7 48 (h := ⟨_, tv, ?_⟩)
            simp only [pE, List.set]
            refine tk 8 49 (h := ⟨_, tv, ?_⟩)
            simp only [pE, List.set]
            refine tk 9 50 (h := ⟨_, tv, ?_⟩)
            simp only [pE, List.set]
            refine tu 10 51 (h := ?_)
            simp only [pE, List.set]
            refine tu 11 52 (h := ?_)
            simp only [pE, List.set]
            refine tu 12 53 (h := ?_)
            simp only [pE, List.set]
            refine tu 13 54 (h := ?_)
            simp only [pE, List.set]
            refine tu 14 55 (h := ?_)
            simp only [pE, List.set]
            refine tk 15 56 (h := ⟨_, tv, ?_⟩)
            simp only [pE, List.set]
            refine tk 16 57 (h := ⟨_, tv, ?_⟩)
            simp only [pE, List.set]
            refine tu 17 58 (h := ?_)
            simp only [pE, List.set]
            refine tu 18 59 (h := ?_)
            simp only [pE, List.set]
            refine tu 19 60 (h := ?_)
            simp only [pE, List.set]
            refine tu 20 61 (h := ?_)
            simp only [pE, List.set]
            refine tu 21 62 (h := ?_)
            simp only [pE, List.set]
            refine tk 22 63 (h := ⟨_, tv, ?_⟩)
            simp only [pE, List.set]
            refine wpAnyH_done (by kernel_rfl) ?_ _
            go_wp2_with fail
            go_roundw
            case rel => exact ⟨i + 1, by go_num, by omega, by rw [hfold, HST.out]; exact HW5.out.below (Below.refl _ W5).drew, HA5.out.trans (Aft.below (Below.refl _ W5).drew (fun b hb => by have := HW5.out.kl b hb; have := HW5.out.size; omega))⟩
            case measure => simp [intOf]; omega
          · have hdn : dn.getD b false = false := by simpa using hdn
            rw [hdn] at db0
            have m0 := HR5.out.m0
            have HF1 := Lib.hid (gFrom_ok g b N y W5.drew (HR5.out.gr.below (Below.refl _ W5).drew) hy)
            have HT1 := Lib.hid (gTo_ok g b N y W5.drew (HR5.out.gr.below (Below.refl _ W5).drew) hy)
            obtain ⟨m1, hm1⟩ : ∃ m1, m1 = mk.getD v false := ⟨_, rfl⟩
            obtain ⟨m2, hm2⟩ : ∃ m2, m2 = mk.getD y.2.1.toNat false := ⟨_, rfl⟩
            have HM1 := Lib.hid (show Calls Tryz.prog 116 #[.int .i64 (v : Int), .pointer (some ⟨ci, 0, none⟩)] W5.drew (fun e w' => e = .returned (.bool m1) ∧ W5.drew = w') from by
             have := marked_ok ci A n c mk (v : Int) W5.drew HR5.out.i0 (HR5.out.mr.below (Below.refl _ W5).drew) (by omega) (by rw [HR5.out.nv]; omega)
             rw [Int.toNat_natCast, ← hm1] at this
             exact this)
            have HM2 := Lib.hid (show Calls Tryz.prog 116 #[.int .i64 y.2.1, .pointer (some ⟨ci, 0, none⟩)] W5.drew (fun e w' => e = .returned (.bool m2) ∧ W5.drew = w') from by
             have := marked_ok ci A n c mk y.2.1 W5.drew HR5.out.i0 (HR5.out.mr.below (Below.refl _ W5).drew) hyo.g0 (by rw [HR5.out.nv]; exact hyo.g1)
             rw [← hm2] at this
             exact this)
            have HE1 := Lib.hid hm1
            have HE2 := Lib.hid hm2
            clear hm1 hm2
            refine tk 0 41 (h := ⟨_, tv, ?_⟩)
            simp only [pE, List.set]
            refine tk 1 42 (h := ⟨_, tv, ?_⟩)
            simp only [pE, List.set]
            refine tk 2 43 (h := ⟨_, tv, ?_⟩)
            simp only [pE, List.set]
            refine tk 3 44 (h := ⟨_, tv, ?_⟩)
            simp only [pE, List.set]
            refine tk 4 45 (h := ⟨_, tv, ?_⟩)
            simp only [pE, List.set]
            refine tk 5 46 (h := ⟨_, tv, ?_⟩)
            simp only [pE, List.set]
            refine tk 6 47 (h := ⟨_, tv, ?_⟩)
            simp only [pE, List.set]
            refine tk 7 48 (h := ⟨_, tv, ?_⟩)
            simp only [pE, List.set]
            refine tk 8 49 (h := ⟨_, tv, ?_⟩)
            simp only [pE, List.set]
            refine tk 9 50 (h := ⟨_, tv, ?_⟩)
            simp only [pE, List.set]
            refine tk 10 51 (h := ⟨_, tv, ?_⟩)
            simp only [pE, List.set]
            refine tk 11 52 (h := ⟨_, tv, ?_⟩)
            simp only [pE, List.set]
            refine tk 12 53 (h := ⟨_, tv, ?_⟩)
            simp only [pE, List.set]
            refine wpAnyH_ready (rs := [13]) (by kernel_rfl) (by simp) ?_
            refine AllReadyH.cons (o := _) rfl (fun K hK => ?_) AllReadyH.nil
            go_simp
            with_reducible refine HF1.out.mono ?_
            rintro e w7 ⟨rfl, rfl⟩
            go_simp
            refine hK.out _ _ rfl (fun _ => ?_)
            clear hK K
            refine wpAnyH_ready (rs := [14]) (by kernel_rfl) (by simp) ?_
            refine AllReadyH.cons (o := _) rfl (fun K hK => ?_) AllReadyH.nil
            go_simp
            with_reducible refine HM1.out.mono ?_
            rintro e w7 ⟨rfl, rfl⟩
            go_simp
            refine hK.out _ _ rfl (fun _ => ?_)
            clear hK K
            have hyv' : y.1.toNat = v := by rw [hyv, hv]; simp
            cases m1 with
            | false =>
             have HST := Lib.hid (show stepF N b mk dn a z s0 b = ((min s0.1 (z + turnN N a b)), s0.2) by unfold stepF; rw [hy]; simp only [if_neg hinf, hyv', ← HE1.out]; simp)
             refine tk 15 56 (h := ⟨_, tv, ?_⟩)
             simp only [pE, List.set]
             refine tk 16 57 (h := ⟨_, tv, ?_⟩)
             simp only [pE, List.set]
             refine tu 17 58 (h := ?_)
             simp only [pE, List.set]
             refine tu 18 59 (h := ?_)
             simp only [pE, List.set]
             refine tu 19 60 (h := ?_)
             simp only [pE, List.set]
             refine tu 20 61 (h := ?_)
             simp only [pE, List.set]
             refine tu 21 62 (h := ?_)
             simp only [pE, List.set]
             refine tk 22 63 (h := ⟨_, tv, ?_⟩)
             simp only [pE, List.set]
             refine wpAnyH_done (by kernel_rfl) ?_ _
             go_wp2_with fail
             go_roundw
             case rel => exact ⟨i + 1, by go_num, by omega, by rw [hfold, HST.out]; exact HW5.out.below (Below.refl _ W5).drew, HA5.out.trans (Aft.below (Below.refl _ W5).drew (fun b hb => by have := HW5.out.kl b hb; have := HW5.out.size; omega))⟩
             case measure => simp [intOf]; omega
            | true =>
             refine tk 15 56 (h := ⟨_, tv, ?_⟩)
             simp only [pE, List.set]
             refine tk 16 57 (h := ⟨_, tv, ?_⟩)
             simp only [pE, List.set]
             refine tk 17 58 (h := ⟨_, tv, ?_⟩)
             simp only [pE, List.set]
             refine tk 18 59 (h := ⟨_, tv, ?_⟩)
             simp only [pE, List.set]
             refine tk 19 60 (h := ⟨_, tv, ?_⟩)
             simp only [pE, List.set]
             refine wpAnyH_ready (rs := [20]) (by kernel_rfl) (by simp) ?_
             refine AllReadyH.cons (o := _) rfl (fun K hK => ?_) AllReadyH.nil
             go_simp
             with_reducible refine HT1.out.mono ?_
             rintro e w7 ⟨rfl, rfl⟩
             go_simp
             refine hK.out _ _ rfl (fun _ => ?_)
             clear hK K
             refine wpAnyH_ready (rs := [21]) (by kernel_rfl) (by simp) ?_
             refine AllReadyH.cons (o := _) rfl (fun K hK => ?_) AllReadyH.nil
             go_simp
             with_reducible refine HM2.out.mono ?_
             rintro e w7 ⟨rfl, rfl⟩
             go_simp
             refine hK.out _ _ rfl (fun _ => ?_)
             clear hK K
             refine tk 22 63 (h := ⟨_, tv, ?_⟩)
             simp only [pE, List.set]
             refine wpAnyH_done (by kernel_rfl) ?_ _
             cases m2 with
             | false =>
              have HST := Lib.hid (show stepF N b mk dn a z s0 b = ((min s0.1 (z + turnN N a b)), s0.2) by unfold stepF; rw [hy]; simp only [if_neg hinf, ← HE2.out]; simp)
              go_wp2_with fail
              go_roundw
              case rel => exact ⟨i + 1, by go_num, by omega, by rw [hfold, HST.out]; exact HW5.out.below (Below.refl _ W5).drew, HA5.out.trans (Aft.below (Below.refl _ W5).drew (fun b hb => by have := HW5.out.kl b hb; have := HW5.out.size; omega))⟩
              case measure => simp [intOf]; omega
             | true =>
              have HST := Lib.hid (show stepF N b mk dn a z s0 b = ((min s0.1 (z + turnN N a b)), putH s0.2 b (z + turnN N a b + y.2.2)) by unfold stepF; rw [hy]; simp only [if_neg hinf, hyv', ← HE1.out, ← HE2.out, hdn]; simp [hwi])
              have h0 := HR5.out.h0
              have hbl : Below W5.heap.size W5 (W5.alloc (.cells #[.int .i64 z, .int .i64 (turnN N a b), .int .i64 y.2.2] 2)).drew.drew := (((Below.refl _ W5)).alloc (Nat.le_refl _) _).drew.drew
              have hrd : RdI (W5.alloc (.cells #[.int .i64 z, .int .i64 (turnN N a b), .int .i64 y.2.2] 2)).drew.drew (some ⟨W5.heap.size, 0, none⟩) 3 [z, turnN N a b, y.2.2] := Blk.rdI (t := 2) (l := [z, turnN N a b, y.2.2]) (Blk.new W5 2 (ints [z, turnN N a b, y.2.2])).drew.drew rfl
              have HW6 := Lib.hid (HW5.out.below hbl)
              have HPU := Lib.hid (hpPut_ok _ s0.2 HW6.out.hh b (by omega) (z + turnN N a b + y.2.2) (by omega) (by omega))
              have HSU := Lib.hid (costSum_ok _ 3 _ z (turnN N a b) y.2.2 hrd hz0 hbd.1 hwb.1 (by omega))
              have hch := (HR5.out.le (Le.below hbl)).h0
              have HB6 := Lib.hid hbl
              clear hrd hbl
              go_wp2_with fail
              refine wp_region_held_drew (S := fun V => V.cell? ⟨ch, 0, none⟩ = some (.pointer (some ⟨gh, 0, none⟩))) (by kernel_rfl) h0 (fun _ => ?_)
              refine tk 0 64 (h := ⟨_, tv, ?_⟩)
              simp only [pE, List.set]
              refine tk 1 65 (h := ⟨_, tv, ?_⟩)
              simp only [pE, List.set]
              refine tk 2 66 (h := ⟨_, tv, ?_⟩)
              simp only [pE, List.set]
              refine tk 3 67 (h := ⟨_, tv, ?_⟩)
              simp only [pE, List.set]
              refine tk 4 68 (h := ⟨_, tv, ?_⟩)
              simp only [pE, List.set]
              refine wpAnyH_ready (rs := [5]) (by kernel_rfl) (by simp) ?_
              refine AllReadyH.cons (o := _) rfl (fun K hK => ?_) AllReadyH.nil
              go_simp
              refine hK.out _ _ hch (fun _ => ?_)
              clear hK K
              refine wpAnyH_ready (rs := [6]) (by kernel_rfl) (by simp) ?_
              refine AllReadyH.cons (o := _) rfl (fun K hK => ?_) AllReadyH.nil
              go_simp
              with_reducible refine HSU.out.mono ?_
              rintro e w8 ⟨rfl, rfl⟩
              go_simp
              refine hK.out _ _ hch (fun _ => ?_)
              clear hK K
              refine wpAnyH_ready (rs := [7]) (by kernel_rfl) (by simp) ?_
              refine AllReadyH.cons (o := _) rfl (fun K hK => ?_) AllReadyH.nil
              go_simp
              with_reducible refine HPU.out.mono ?_
              rintro e w9 ⟨rfl, hh9, ha9⟩
              have HW9 := Lib.hid (HW6.out.put hh9 ha9)
              have HA9 := Lib.hid ((HA5.out.trans (Aft.below HB6.out (fun b hb => by have := HW5.out.kl b hb; have := HW5.out.size; omega))).trans (ha9.mono (fun _ hb => .inl hb)))
              have hc9 := (HRL.out.le (Le.kept HW9.out.kept)).h0
              clear hh9 ha9
              go_simp
              refine hK.out _ _ hc9 (fun _ => ?_)
              clear hK K
              refine wpAnyH_done (by kernel_rfl) ?_ _
              go_wp2_with fail
              go_roundw
              case rel => exact ⟨i + 1, by go_num, by omega, by rw [hfold, HST.out]; exact HW9.out, HA9.out⟩
              case measure => simp [intOf]; omega
      · have e2 : ((b : Int) == (t : Int)) = false := by simp; omega
        obtain ⟨W5, hW5⟩ : ∃ W5, W5 = w3 := ⟨_, rfl⟩
        subst hW5
        have HW5 := HW3
        have HA5 := HA3
        have HR5 := HR3
        clear HW3 HA3 HR3 t0 g0
        have t0 := HR5.out.t0
        have g0 := HR5.out.g0
        have HWE := Lib.hid (gWeight_ok g b N y W5 HR5.out.gr hy)
        have hyo := hok.arcs y (List.mem_of_getElem? hy)
        have hbn : b < dn.length := by rw [HW5.out.ld, HR5.out.na]; exact (List.getElem?_eq_some_iff.1 hy).1
        have d0 := HR5.out.d0
        have db0 := HW5.out.dd.cellB (i := b) (getD_lt false hbn)
        have hld := HW5.out.ld
        have j1 : (0 : Int) ≤ (b : Int) := by omega
        have j2 : (b : Int) < (na : Int) := by omega
        go_wp2_with fail
        with_reducible refine HWE.out.mono ?_
        rintro e w6 ⟨rfl, rfl⟩
        clear HWE
        go_wp2_with fail
        by_cases hwi : y.2.2 = 1152921504606846976
        · have HST := Lib.hid (show stepF N t mk dn a z s0 b = (s0.1, s0.2) by unfold stepF; rw [hy]; simp [hinf, hwi, hbt])
          have e3 : (y.2.2 != 1152921504606846976) = false := by simp [hwi]
          refine wp_region_held_drew (S := fun V => V = W5.drew) (by kernel_rfl) rfl (fun _ => ?_)
          refine tk 0 41 (h := ⟨_, tv, ?_⟩)
          simp only [pE, List.set]
          refine tk 1 42 (h := ⟨_, tv, ?_⟩)
          simp only [pE, List.set]
          refine tk 2 43 (h := ⟨_, tv, ?_⟩)
          simp only [pE, List.set]
          refine tu 3 44 (h := ?_)
          simp only [pE, List.set]
          refine tu 4 45 (h := ?_)
          simp only [pE, List.set]
          refine tu 5 46 (h := ?_)
          simp only [pE, List.set]
          refine tu 6 47 (h := ?_)
          simp only [pE, List.set]
          refine tu 7 48 (h := ?_)
          simp only [pE, List.set]
          refine tk 8 49 (h := ⟨_, tv, ?_⟩)
          simp only [pE, List.set]
          refine tk 9 50 (h := ⟨_, tv, ?_⟩)
          simp only [pE, List.set]
          refine tu 10 51 (h := ?_)
          simp only [pE, List.set]
          refine tu 11 52 (h := ?_)
          simp only [pE, List.set]
          refine tu 12 53 (h := ?_)
          simp only [pE, List.set]
          refine tu 13 54 (h := ?_)
          simp only [pE, List.set]
          refine tu 14 55 (h := ?_)
          simp only [pE, List.set]
          refine tk 15 56 (h := ⟨_, tv, ?_⟩)
          simp only [pE, List.set]
          refine tk 16 57 (h := ⟨_, tv, ?_⟩)
          simp only [pE, List.set]
          refine tu 17 58 (h := ?_)
          simp only [pE, List.set]
          refine tu 18 59 (h := ?_)
          simp only [pE, List.set]
          refine tu 19 60 (h := ?_)
          simp only [pE, List.set]
          refine tu 20 61 (h := ?_)
          simp only [pE, List.set]
          refine tu 21 62 (h := ?_)
          simp only [pE, List.set]
          refine tk 22 63 (h := ⟨_, tv, ?_⟩)
          simp only [pE, List.set]
          refine wpAnyH_done (by kernel_rfl) ?_ _
          go_wp2_with fail
          go_roundw
          case rel => exact ⟨i + 1, by go_num, by omega, by rw [hfold, HST.out]; exact HW5.out.below (Below.refl _ W5).drew, HA5.out.trans (Aft.below (Below.refl _ W5).drew (fun b hb => by have := HW5.out.kl b hb; have := HW5.out.size; omega))⟩
          case measure => simp [intOf]; omega
        · have e3 : (y.2.2 != 1152921504606846976) = true := by simp [hwi]
          have hwb := (wOk_bd hyo.w).resolve_left hwi
          refine wp_region_held_drew (S := fun V => V = W5.drew) (by kernel_rfl) rfl (fun _ => ?_)
          by_cases hdn : dn.getD b false = true
          · have HST := Lib.hid (show stepF N t mk dn a z s0 b = (s0.1, s0.2) by unfold stepF; rw [hy]; simp only [if_neg hinf, hdn]; simp [hbt])
            rw [hdn] at db0
            refine tk 0 41 (h := ⟨_, tv, ?_⟩)
            simp only [pE, List.set]
            refine tk 1 42 (h := ⟨_, tv, ?_⟩)
            simp only [pE, List.set]
            refine tk 2 43 (h := ⟨_, tv, ?_⟩)
            simp only [pE, List.set]
            refine tk 3 44 (h := ⟨_, tv, ?_⟩)
            simp only [pE, List.set]
            refine tk 4 45 (h := ⟨_, tv, ?_⟩)
            simp only [pE, List.set]
            refine tk 5 46 (h := ⟨_, tv, ?_⟩)
            simp only [pE, List.set]
            refine tk 6 47 (h := ⟨_, tv, ?_⟩)
            simp only [pE, List.set]
            refine tk 7 48 (h := ⟨_, tv, ?_⟩)
            simp only [pE, List.set]
            refine tk 8 49 (h := ⟨_, tv, ?_⟩)
            simp only [pE, List.set]
            refine tk 9 50 (h := ⟨_, tv, ?_⟩)
            simp only [pE, List.set]
            refine tu 10 51 (h := ?_)
            simp only [pE, List.set]
            refine tu 11 52 (h := ?_)
            simp only [pE, List.set]
            refine tu 12 53 (h := ?_)
            simp only [pE, List.set]
            refine tu 13 54 (h := ?_)
            simp only [pE, List.set]
            refine tu 14 55 (h := ?_)
            simp only [pE, List.set]
            refine tk 15 56 (h := ⟨_, tv, ?_⟩)
            simp only [pE, List.set]
            refine tk 16 57 (h := ⟨_, tv, ?_⟩)
            simp only [pE, List.set]
            refine tu 17 58 (h := ?_)
            simp only [pE, List.set]
            refine tu 18 59 (h := ?_)
            simp only [pE, List.set]
            refine tu 19 60 (h := ?_)
            simp only [pE, List.set]
            refine tu 20 61 (h := ?_)
            simp only [pE, List.set]
            refine tu 21 62 (h := ?_)
            simp only [pE, List.set]
            refine tk 22 63 (h := ⟨_, tv, ?_⟩)
            simp only [pE, List.set]
            refine wpAnyH_done (by kernel_rfl) ?_ _
            go_wp2_with fail
            go_roundw
            case rel => exact ⟨i + 1, by go_num, by omega, by rw [hfold, HST.out]; exact HW5.out.below (Below.refl _ W5).drew, HA5.out.trans (Aft.below (Below.refl _ W5).drew (fun b hb => by have := HW5.out.kl b hb; have := HW5.out.size; omega))⟩
            case measure => simp [intOf]; omega
          · have hdn : dn.getD b false = false := by simpa using hdn
            rw [hdn] at db0
            have m0 := HR5.out.m0
            have HF1 := Lib.hid (gFrom_ok g b N y W5.drew (HR5.out.gr.below (Below.refl _ W5).drew) hy)
            have HT1 := Lib.hid (gTo_ok g b N y W5.drew (HR5.out.gr.below (Below.refl _ W5).drew) hy)
            obtain ⟨m1, hm1⟩ : ∃ m1, m1 = mk.getD v false := ⟨_, rfl⟩
            obtain ⟨m2, hm2⟩ : ∃ m2, m2 = mk.getD y.2.1.toNat false := ⟨_, rfl⟩
            have HM1 := Lib.hid (show Calls Tryz.prog 116 #[.int .i64 (v : Int), .pointer (some ⟨ci, 0, none⟩)] W5.drew (fun e w' => e = .returned (.bool m1) ∧ W5.drew = w') from by
             have := marked_ok ci A n c mk (v : Int) W5.drew HR5.out.i0 (HR5.out.mr.below (Below.refl _ W5).drew) (by omega) (by rw [HR5.out.nv]; omega)
             rw [Int.toNat_natCast, ← hm1] at this
             exact this)
            have HM2 := Lib.hid (show Calls Tryz.prog 116 #[.int .i64 y.2.1, .pointer (some ⟨ci, 0, none⟩)] W5.drew (fun e w' => e = .returned (.bool m2) ∧ W5.drew = w') from by
             have := marked_ok ci A n c mk y.2.1 W5.drew HR5.out.i0 (HR5.out.mr.below (Below.refl _ W5).drew) hyo.g0 (by rw [HR5.out.nv]; exact hyo.g1)
             rw [← hm2] at this
             exact this)
            have HE1 := Lib.hid hm1
            have HE2 := Lib.hid hm2
            clear hm1 hm2
            refine tk 0 41 (h := ⟨_, tv, ?_⟩)
            simp only [pE, List.set]
            refine tk 1 42 (h := ⟨_, tv, ?_⟩)
            simp only [pE, List.set]
            refine tk 2 43 (h := ⟨_, tv, ?_⟩)
            simp only [pE, List.set]
            refine tk 3 44 (h := ⟨_, tv, ?_⟩)
            simp only [pE, List.set]
            refine tk 4 45 (h := ⟨_, tv, ?_⟩)
            simp only [pE, List.set]
            refine tk 5 46 (h := ⟨_, tv, ?_⟩)
            simp only [pE, List.set]
            refine tk 6 47 (h := ⟨_, tv, ?_⟩)
            simp only [pE, List.set]
            refine tk 7 48 (h := ⟨_, tv, ?_⟩)
            simp only [pE, List.set]
            refine tk 8 49 (h := ⟨_, tv, ?_⟩)
            simp only [pE, List.set]
            refine tk 9 50 (h := ⟨_, tv, ?_⟩)
            simp only [pE, List.set]
            refine tk 10 51 (h := ⟨_, tv, ?_⟩)
            simp only [pE, List.set]
            refine tk 11 52 (h := ⟨_, tv, ?_⟩)
            simp only [pE, List.set]
            refine tk 12 53 (h := ⟨_, tv, ?_⟩)
            simp only [pE, List.set]
            refine wpAnyH_ready (rs := [13]) (by kernel_rfl) (by simp) ?_
            refine AllReadyH.cons (o := _) rfl (fun K hK => ?_) AllReadyH.nil
            go_simp
            with_reducible refine HF1.out.mono ?_
            rintro e w7 ⟨rfl, rfl⟩
            go_simp
            refine hK.out _ _ rfl (fun _ => ?_)
            clear hK K
            refine wpAnyH_ready (rs := [14]) (by kernel_rfl) (by simp) ?_
            refine AllReadyH.cons (o := _) rfl (fun K hK => ?_) AllReadyH.nil
            go_simp
            with_reducible refine HM1.out.mono ?_
            rintro e w7 ⟨rfl, rfl⟩
            go_simp
            refine hK.out _ _ rfl (fun _ => ?_)
            clear hK K
            have hyv' : y.1.toNat = v := by rw [hyv, hv]; simp
            cases m1 with
            | false =>
             have HST := Lib.hid (show stepF N t mk dn a z s0 b = (s0.1, s0.2) by unfold stepF; rw [hy]; simp only [if_neg hinf, hyv', ← HE1.out]; simp [hbt])
             refine tk 15 56 (h := ⟨_, tv, ?_⟩)
             simp only [pE, List.set]
             refine tk 16 57 (h := ⟨_, tv, ?_⟩)
             simp only [pE, List.set]
             refine tu 17 58 (h := ?_)
             simp only [pE, List.set]
             refine tu 18 59 (h := ?_)
             simp only [pE, List.set]
             refine tu 19 60 (h := ?_)
             simp only [pE, List.set]
             refine tu 20 61 (h := ?_)
             simp only [pE, List.set]
             refine tu 21 62 (h := ?_)
             simp only [pE, List.set]
             refine tk 22 63 (h := ⟨_, tv, ?_⟩)
             simp only [pE, List.set]
             refine wpAnyH_done (by kernel_rfl) ?_ _
             go_wp2_with fail
             go_roundw
             case rel => exact ⟨i + 1, by go_num, by omega, by rw [hfold, HST.out]; exact HW5.out.below (Below.refl _ W5).drew, HA5.out.trans (Aft.below (Below.refl _ W5).drew (fun b hb => by have := HW5.out.kl b hb; have := HW5.out.size; omega))⟩
             case measure => simp [intOf]; omega
            | true =>
             refine tk 15 56 (h := ⟨_, tv, ?_⟩)
             simp only [pE, List.set]
             refine tk 16 57 (h := ⟨_, tv, ?_⟩)
             simp only [pE, List.set]
             refine tk 17 58 (h := ⟨_, tv, ?_⟩)
             simp only [pE, List.set]
             refine tk 18 59 (h := ⟨_, tv, ?_⟩)
             simp only [pE, List.set]
             refine tk 19 60 (h := ⟨_, tv, ?_⟩)
             simp only [pE, List.set]
             refine wpAnyH_ready (rs := [20]) (by kernel_rfl) (by simp) ?_
             refine AllReadyH.cons (o := _) rfl (fun K hK => ?_) AllReadyH.nil
             go_simp
             with_reducible refine HT1.out.mono ?_
             rintro e w7 ⟨rfl, rfl⟩
             go_simp
             refine hK.out _ _ rfl (fun _ => ?_)
             clear hK K
             refine wpAnyH_ready (rs := [21]) (by kernel_rfl) (by simp) ?_
             refine AllReadyH.cons (o := _) rfl (fun K hK => ?_) AllReadyH.nil
             go_simp
             with_reducible refine HM2.out.mono ?_
             rintro e w7 ⟨rfl, rfl⟩
             go_simp
             refine hK.out _ _ rfl (fun _ => ?_)
             clear hK K
             refine tk 22 63 (h := ⟨_, tv, ?_⟩)
             simp only [pE, List.set]
             refine wpAnyH_done (by kernel_rfl) ?_ _
             cases m2 with
             | false =>
              have HST := Lib.hid (show stepF N t mk dn a z s0 b = (s0.1, s0.2) by unfold stepF; rw [hy]; simp only [if_neg hinf, ← HE2.out]; simp [hbt])
              go_wp2_with fail
              go_roundw
              case rel => exact ⟨i + 1, by go_num, by omega, by rw [hfold, HST.out]; exact HW5.out.below (Below.refl _ W5).drew, HA5.out.trans (Aft.below (Below.refl _ W5).drew (fun b hb => by have := HW5.out.kl b hb; have := HW5.out.size; omega))⟩
              case measure => simp [intOf]; omega
             | true =>
              have HST := Lib.hid (show stepF N t mk dn a z s0 b = (s0.1, putH s0.2 b (z + turnN N a b + y.2.2)) by unfold stepF; rw [hy]; simp only [if_neg hinf, hyv', ← HE1.out, ← HE2.out, hdn]; simp [hbt, hwi])
              have h0 := HR5.out.h0
              have hbl : Below W5.heap.size W5 (W5.alloc (.cells #[.int .i64 z, .int .i64 (turnN N a b), .int .i64 y.2.2] 2)).drew.drew := (((Below.refl _ W5)).alloc (Nat.le_refl _) _).drew.drew
              have hrd : RdI (W5.alloc (.cells #[.int .i64 z, .int .i64 (turnN N a b), .int .i64 y.2.2] 2)).drew.drew (some ⟨W5.heap.size, 0, none⟩) 3 [z, turnN N a b, y.2.2] := Blk.rdI (t := 2) (l := [z, turnN N a b, y.2.2]) (Blk.new W5 2 (ints [z, turnN N a b, y.2.2])).drew.drew rfl
              have HW6 := Lib.hid (HW5.out.below hbl)
              have HPU := Lib.hid (hpPut_ok _ s0.2 HW6.out.hh b (by omega) (z + turnN N a b + y.2.2) (by omega) (by omega))
              have HSU := Lib.hid (costSum_ok _ 3 _ z (turnN N a b) y.2.2 hrd hz0 hbd.1 hwb.1 (by omega))
              have hch := (HR5.out.le (Le.below hbl)).h0
              have HB6 := Lib.hid hbl
              clear hrd hbl
              go_wp2_with fail
              refine wp_region_held_drew (S := fun V => V.cell? ⟨ch, 0, none⟩ = some (.pointer (some ⟨gh, 0, none⟩))) (by kernel_rfl) h0 (fun _ => ?_)
              refine tk 0 64 (h := ⟨_, tv, ?_⟩)
              simp only [pE, List.set]
              refine tk 1 65 (h := ⟨_, tv, ?_⟩)
              simp only [pE, List.set]
              refine tk 2 66 (h := ⟨_, tv, ?_⟩)
              simp only [pE, List.set]
              refine tk 3 67 (h := ⟨_, tv, ?_⟩)
              simp only [pE, List.set]
              refine tk 4 68 (h := ⟨_, tv, ?_⟩)
              simp only [pE, List.set]
              refine wpAnyH_ready (rs := [5]) (by kernel_rfl) (by simp) ?_
              refine AllReadyH.cons (o := _) rfl (fun K hK => ?_) AllReadyH.nil
              go_simp
              refine hK.out _ _ hch (fun _ => ?_)
              clear hK K
              refine wpAnyH_ready (rs := [6]) (by kernel_rfl) (by simp) ?_
              refine AllReadyH.cons (o := _) rfl (fun K hK => ?_) AllReadyH.nil
              go_simp
              with_reducible refine HSU.out.mono ?_
              rintro e w8 ⟨rfl, rfl⟩
              go_simp
              refine hK.out _ _ hch (fun _ => ?_)
              clear hK K
              refine wpAnyH_ready (rs := [7]) (by kernel_rfl) (by simp) ?_
              refine AllReadyH.cons (o := _) rfl (fun K hK => ?_) AllReadyH.nil
              go_simp
              with_reducible refine HPU.out.mono ?_
              rintro e w9 ⟨rfl, hh9, ha9⟩
              have HW9 := Lib.hid (HW6.out.put hh9 ha9)
              have HA9 := Lib.hid ((HA5.out.trans (Aft.below HB6.out (fun b hb => by have := HW5.out.kl b hb; have := HW5.out.size; omega))).trans (ha9.mono (fun _ hb => .inl hb)))
              have hc9 := (HRL.out.le (Le.kept HW9.out.kept)).h0
              clear hh9 ha9
              go_simp
              refine hK.out _ _ hc9 (fun _ => ?_)
              clear hK K
              refine wpAnyH_done (by kernel_rfl) ?_ _
              go_wp2_with fail
              go_roundw
              case rel => exact ⟨i + 1, by go_num, by omega, by rw [hfold, HST.out]; exact HW9.out, HA9.out⟩
              case measure => simp [intOf]; omega
  · obtain rfl : i = no := by omega
    go_wp2_with fail
    go_end0
    refine ⟨rfl, ⟨bs, hbs, ?_⟩, ?_⟩
    · rw [List.take_of_length_le (by omega)] at hw
      exact (HW.out.below HB.out).back hw (fun _ hb => .inl hb)
    · exact (Aft.below HB.out (fun b hb => by have := HW.out.kl b hb; have := HW.out.size; omega)).trans (ha.mono (fun _ hb => .inl hb))
end Go.Proofs.YtgkeolddpielpaaGreat
