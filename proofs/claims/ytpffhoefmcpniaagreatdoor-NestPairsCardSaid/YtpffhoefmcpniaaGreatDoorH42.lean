/- Parts of the proof: NeQ, NeJ, NeM. -/
import Derived.Test.YtpffhoefmcpniaaGreatDoorH1
import Derived.Test.YtpffhoefmcpniaaGreatDoorH13
import Derived.Test.YtpffhoefmcpniaaGreatDoorH33
/- Points without edges between them: plain. -/
namespace Go.Proofs.YtpffhoefmcpniaaGreatDoor
open Go.RowKit

theorem cr_nil (b : List Bool) : cr b [] = 0 := rfl
theorem mkB_sep {n : Nat} {s t : List Nat} (hs : ∀ v ∈ s, v < n) (hd : ∀ v ∈ t, v ∉ s) : SepB n s t (mkB n s) :=
  ⟨mkB_len _ _, fun v hv => (mkB_at _ _ _).2 ⟨hv, hs v hv⟩, fun v hv => by
    cases e : (mkB n s).getD v false
    · rfl
    · exact absurd ((mkB_at _ _ _).1 e).1 (hd v hv)⟩
theorem near_none {n : Nat} {s t : List Nat} {b : List Bool} (h : NearB n [] s t b) (hs : ∀ v ∈ s, v < n) (hd : ∀ v ∈ t, v ∉ s) (v : Nat) : b.getD v false = true ↔ v ∈ s :=
  ⟨fun g => ((mkB_at _ _ _).1 (h.first _ (mkB_sep hs hd) rfl v g)).1, fun g => h.sep.inn v g⟩
/-- Of two points. -/
theorem best_two {p q : Int × Int} {b : List Bool} (h : IsBest [] [p, q] b) : b = if p.1 ≤ q.1 then [true, false] else [false, true] := by
  obtain ⟨L, s, h1, h2, rfl⟩ := h
  obtain ⟨s0, e0⟩ : ∃ s0, L[0]? = some s0 := ⟨_, List.getElem?_eq_getElem (by rw [h1.1]; omega)⟩
  have hs0 := h1.2 0 s0 e0
  have hn := hs0.near rfl
  have h2' : 2 ≤ [p, q].length := by simp
  have hord : order [p, q] 0 = if p.1 ≤ q.1 then [0, 1] else [1, 0] := by
    split
    · rename_i h
      refine order_eq ⟨List.Perm.refl _, ?_⟩
      refine List.pairwise_cons.2 ⟨fun a ha => ?_, by simp⟩
      rw [List.mem_singleton.1 ha]
      simp [klt, keysOf, key]
      omega
    · rename_i h
      refine order_eq ⟨List.Perm.swap _ _ _, ?_⟩
      refine List.pairwise_cons.2 ⟨fun a ha => ?_, by simp⟩
      rw [List.mem_singleton.1 ha]
      simp [klt, keysOf, key]
      omega
  have hsrc : srcN [p, q] 0 = [if p.1 ≤ q.1 then 0 else 1] := by
    unfold srcN
    rw [show ((0 : Nat) : Int) = 0 from rfl, hord, show endsN [p, q].length = 1 by simp [endsN]]
    split <;> rfl
  have hat := near_none hn (fun v hv => srcN_lt hv) (fun v hv => srcN_dst h2' hv)
  have hside : s0.side = if p.1 ≤ q.1 then [true, false] else [false, true] := by
    refine getD_ext (by rw [hn.sep.len]; split <;> rfl) (fun v => ?_)
    have hv := hat v
    rw [show (0 / 3 : Nat) = 0 from rfl, hsrc, List.mem_singleton] at hv
    have hlen := hn.sep.len
    rcases Nat.lt_or_ge v 2 with g | g
    · have : v = 0 ∨ v = 1 := by omega
      rcases this with rfl | rfl
      · split at hv
        · rename_i c; rw [if_pos c, hv.2 rfl]; rfl
        · rename_i c; rw [if_neg c]
          cases e : s0.side.getD 0 false
          · rfl
          · exact absurd (hv.1 e) (by omega)
      · split at hv
        · rename_i c; rw [if_pos c]
          cases e : s0.side.getD 1 false
          · rfl
          · exact absurd (hv.1 e) (by omega)
        · rename_i c; rw [if_neg c, hv.2 rfl]; rfl
    · have e1 : s0.side.getD v false = false := by
        cases e : s0.side.getD v false
        · rfl
        · have := getD_lt e
          rw [hlen] at this
          simp at this; omega
      rw [e1]
      split <;> simp [g]
  have hoff : offB s0.side = 0 := by rw [hside]; split <;> rfl
  have := h2.first e0 hoff (fun i t ht => by rw [hs0.cross, (h1.2 i t ht).cross, cr_nil, cr_nil]; exact Int.le_refl _)
  rw [this, hside]
theorem half_cnt {l : List (Int × Int)} {d : Nat} (h2 : 2 ≤ l.length) : cnt (halfB l d) = (l.length + 1) / 2 := by
  have e := ends_two h2
  have hl : (halfB l d).length = l.length := mkB_len _ _
  have h1 := cnt_ge (b := halfB l d) (s := hlfN l d) (natsOf_nodup (fun _ hx => (order_mem (List.mem_of_mem_take hx)).1) ((order_nodup l d).sublist (List.take_sublist _ _))) (fun v hv => (mkB_at _ _ _).2 ⟨hv, hlfN_lt hv⟩)
  have h3 := cnt_out (b := halfB l d) (t := natsOf ((order l d).drop ((l.length + 1) / 2))) (natsOf_nodup (fun _ hx => (order_mem (List.mem_of_mem_drop hx)).1) ((order_nodup l d).sublist (List.drop_sublist _ _))) (fun v hv => by
    cases e : (halfB l d).getD v false
    · rfl
    · exact absurd hv (fun hv => parted (Nat.le_refl _) ((mkB_at _ _ _).1 e).1 hv)) (fun v hv => by
    obtain ⟨x, hx, rfl⟩ := mem_natsOf.1 hv
    rw [hl]; exact order_lt (List.mem_of_mem_drop hx))
  unfold hlfN at h1
  rw [natsOf_len, List.length_take, order_len] at h1
  rw [natsOf_len, List.length_drop, order_len, hl] at h3
  omega
/-- Without edges the best one is as even as may be. -/
theorem best_even {l : List (Int × Int)} {b : List Bool} (h : IsBest [] l b) (h2 : 2 ≤ l.length) : b.length = l.length ∧ (l.length : Int) - 1 ≤ 2 * (cnt b : Int) ∧ 2 * (cnt b : Int) ≤ (l.length : Int) + 1 := by
  have hf := h.fair h2
  obtain ⟨L, s, h1, h3, rfl⟩ := h
  obtain ⟨s2, e2⟩ : ∃ s2, L[2]? = some s2 := ⟨_, List.getElem?_eq_getElem (by rw [h1.1]; omega)⟩
  have hs2 := (h1.2 2 s2 e2).half rfl
  obtain ⟨a, ha, hL, hall⟩ := h3
  have hno := hall 2 s2 (by omega) e2
  have c1 := (h1.2 2 s2 e2).cross
  have c2 := (h1.2 a s hL).cross
  rw [cr_nil] at c1 c2
  have ho : offB s2.side ≤ 1 := by
    unfold offB
    rw [hs2, half_cnt h2, show (halfB l (2 / 3)).length = l.length from mkB_len _ _]
    omega
  have : offB s.side ≤ offB s2.side := by omega
  unfold offB at this ho
  rw [hf.1] at this
  exact ⟨hf.1, by omega, by omega⟩
theorem edgs_none {N : NetD} (h : N.ar = []) (vl : List Nat) : edgsN N vl = [] := by unfold edgsN arcsN arcsTo; rw [h]; rfl
/-- Cut in two, no more. -/
theorem pcs_pair {N : NetD} {vl : List Nat} (h2 : 2 ≤ vl.length) : pcs N (vl.length - 1) vl = [hlf N true vl, hlf N false vl] := by
  have g1 := hlf_len N true h2
  have g2 := hlf_len N false h2
  rw [pcs_two N (by omega) h2, pcs_one N (by omega) (.inl (by omega)), pcs_one N (by omega) (.inl (by omega))]
  rfl
end Go.Proofs.YtpffhoefmcpniaaGreatDoor

/- A best split there is: of the run that finds it. -/
namespace Go.Proofs.YtpffhoefmcpniaaGreatDoor
open Go.RowKit

theorem pcells_lenJ : ∀ l : List (Int × Int), (pcells l).length = l.length * 2
  | [] => rfl
  | _ :: t => by
    show (pcells t).length + 1 + 1 = (t.length + 1) * 2
    rw [pcells_lenJ t]
    omega
theorem isBest_ex (w : World) {l E : List (Int × Int)} (hG : Good l E) (hn : l.length ≤ 4096) (hm : E.length ≤ 16384) : ∃ b, IsBest E l b := by
  have h1 : RdP ((w.alloc (.cells (pcells l).toArray 127)).alloc (.cells (pcells E).toArray 127)) (some ⟨w.heap.size, 0, none⟩) l.length l :=
    Rds.rdP (by simpa using (((Blk.new w 127 (pcells l).toArray).alloc (.cells (pcells E).toArray 127)).rds (s := 2) (m := l.length) (by simp [pcells_lenJ])))
  have h2 : RdP ((w.alloc (.cells (pcells l).toArray 127)).alloc (.cells (pcells E).toArray 127)) (some ⟨(w.alloc (.cells (pcells l).toArray 127)).heap.size, 0, none⟩) E.length E :=
    Rds.rdP (by simpa using ((Blk.new (w.alloc (.cells (pcells l).toArray 127)) 127 (pcells E).toArray).rds (s := 2) (m := E.length) (by simp [pcells_lenJ])))
  obtain ⟨e, w', fr, ⟨A', n', c', s, L, _, _, _, hall, hopt, _⟩, _⟩ := cutBest_any _ _ _ _ l.length E.length l E _ h1 h2 hG hn hm []
  exact ⟨s.side, L, s, hall, hopt, rfl⟩
/-- The side of a piece is the best one. -/
theorem side_is (w : World) {N : NetD} (hN : NetOk N) {vl : List Nat} (h : PcOk N.vs.length vl) (h2 : 2 ≤ vl.length) : IsBest (edgsN N vl) (ptsN N vl) (sideN N vl) := by
  have hl : vl.length ≤ N.vs.length := h.len
  have hv := hN.lv
  have ha := hN.la
  have he : (edgsN N vl).length ≤ N.ar.length := by
    have := arcsTo_len N vl N.ar.length
    simpa [edgsN, arcsN] using this
  obtain ⟨b, hb⟩ := isBest_ex w (pts_good hN h h2) (by rw [pts_len]; omega) (by omega)
  have e : sideN N vl = b := bestB_eq hb
  rw [e]
  exact hb
end Go.Proofs.YtpffhoefmcpniaaGreatDoor

/- Of points without edges: what Pieces gives. -/
namespace Go.Proofs.YtpffhoefmcpniaaGreatDoor
open Go.RowKit

/-- Two points: the one that lies more to the left is first. -/
theorem pcs_two_pts (w : World) {N : NetD} (hN : NetOk N) (ha : N.ar = []) {u v : Nat} (h : PcOk N.vs.length [u, v]) : pcs N 1 [u, v] = if (ptN N u).1 ≤ (ptN N v).1 then [[u], [v]] else [[v], [u]] := by
  have h2 : 2 ≤ [u, v].length := Nat.le_refl _
  have hs := side_is w hN h h2
  rw [edgs_none ha] at hs
  have hb := best_two (p := ptN N u) (q := ptN N v) hs
  have hp := pcs_pair (N := N) h2
  have hp : pcs N 1 [u, v] = [hlf N true [u, v], hlf N false [u, v]] := hp
  rw [hp]
  unfold hlf
  rw [hb]
  split <;> rfl
/-- Points: the halves are even, but for one. -/
theorem even_pts (w : World) {N : NetD} (hN : NetOk N) (ha : N.ar = []) {vl : List Nat} (h : PcOk N.vs.length vl) (h2 : 2 ≤ vl.length) : (hlf N true vl).length + (hlf N false vl).length = vl.length ∧ ((hlf N true vl).length : Int) - (hlf N false vl).length ≤ 1 ∧ -1 ≤ ((hlf N true vl).length : Int) - (hlf N false vl).length := by
  have hs := side_is w hN h h2
  rw [edgs_none ha] at hs
  have hb := best_even hs (by rw [pts_len]; exact h2)
  rw [pts_len] at hb
  have hl := sel_len vl (sideN N vl) hb.1.symm
  unfold hlf
  omega
end Go.Proofs.YtpffhoefmcpniaaGreatDoor
