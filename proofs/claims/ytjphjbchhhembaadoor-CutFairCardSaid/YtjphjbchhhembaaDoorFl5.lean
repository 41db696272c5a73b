/- (*flow.work).grow, walked. -/
import Derived.Test.YtjphjbchhhembaaDoorFlR
namespace Go.Proofs.YtjphjbchhhembaaDoor
open Go.RowKit

attribute [local go_sem ↓] Go.wp_at_zero Go.wp_at_succ

/-- The work ahead of its depths. -/
structure Wp (w0 W : World) (n m gw gf ge ct : Nat) (AT : Option Addr) (ls : List (List Lnk)) (f : List Int) (en : List Bool) (X3 X4 : Value) : Prop where
  at0 : RdN w0 AT n ls
  bel : Subw w0 W
  z : Freew w0 gw ∧ Freew w0 gf ∧ Freew w0 ge
  ne : gw ≠ gf ∧ gw ≠ ge ∧ gf ≠ ge
  bw : Blk W gw 165 #[.slice AT n ct, .slice (some ⟨gf, 0, none⟩) m m, .slice (some ⟨ge, 0, none⟩) n n, X3, X4]
  bf : Blk W gf 3 (ints f)
  be : Blk W ge 4 (bools en)
  lf : f.length = m
  le : en.length = n
theorem Wk.wp {w0 W : World} {n m gw gf ge gd gx ct : Nat} {AT : Option Addr} {ls : List (List Lnk)} {f : List Int} {en : List Bool} {d nx : List Int} (h : Wk w0 W n m gw gf ge gd gx ct AT ls f en d nx) : Wp w0 W n m gw gf ge ct AT ls f en (.slice (some ⟨gd, 0, none⟩) n n) (.slice (some ⟨gx, 0, none⟩) n n) :=
  ⟨h.at0, h.bel, ⟨h.z.1, h.z.2.1, h.z.2.2.1⟩, ⟨h.ne.1, h.ne.2.1, h.ne.2.2.2.2.1⟩, h.bw, h.bf, h.be, h.lf, h.le⟩
theorem near_of {E : List Edg} {src dst : List Int} {V : Int} {f : List Int} (h : FlowI E src dst V f) : Near1 f 1 := fun x hx => by have := h.unit x hx; unfold Unit3 at this; omega

/-- What a push turns is no old memory but the flow's. -/
theorem KeepX.push {gf gw gx : Nat} {a b c : World} (h : KeepX (fun k => k = gf ∨ k = gw) a b) (g : KeepX (fun k => k = gf ∨ k = gx) b c) (hx : a.heap.size ≤ gx) : KeepX (fun k => k = gf ∨ k = gw) a c :=
  ⟨g.os.trans h.os, g.tape.trans h.tape, g.output.trans h.output, Nat.le_trans h.size g.size, fun k hk hs => (g.block k (Nat.lt_of_lt_of_le hk h.size) (fun e => by
    rcases e with e | e
    · exact hs (.inl e)
    · omega)).trans (h.block k hk hs)⟩

set_option maxHeartbeats 8000000 in
theorem grow_any (w0 W0 : World) (n m gw gf ge ct : Nat) (AT : Option Addr) (ls : List (List Lnk)) (f : List Int) (en : List Bool) (X3 X4 : Value) (h : Wp w0 W0 n m gw gf ge ct AT ls f en X3 X4) (AS : Option Addr) (ks cs V : Nat) (s : List Nat) (E : List Edg) (dst : List Int) (hk : LkIn n m ls) (hS : RdI w0 AS ks (nats s)) (hsn : ∀ v ∈ s, v < n) (hL : LinksOf n E ls) (hE : Ends n E) (hEm : E.length = m) (hF : FlowI E (nats s) dst V f) (hen : ∀ t : Nat, en.getD t false = true ↔ (t : Int) ∈ dst) (hdis : ∀ v ∈ nats s, v ∉ dst) (hn : n ≤ 1000000) (hm : m ≤ 1000000) (hks : ks ≤ 1000000) :
    Calls Tryd.prog 102 #[.pointer (some ⟨gw, 0, none⟩), .slice AS ks cs] W0 fun e W' => ∃ (c gd gx : Nat) (d nx f' : List Int), e = .returned (.int .i64 c) ∧ Wk w0 W' n m gw gf ge gd gx ct AT ls f' en d nx ∧ KeepX (fun k => k = gf ∨ k = gw) W0 W' ∧ FlowI E (nats s) dst ((V : Int) + c) f' ∧ (c = 0 → f' = f ∧ ∀ v ∈ dst, ¬ Reach E f (nats s) v) := by
  have hmk := run_makeI n (by omega)
  have HK := Lib.hid hk
  have HF := Lib.hid hF
  have HSN := Lib.hid hsn
  have HL := Lib.hid hL
  have HE := Lib.hid hE
  have HEN := Lib.hid hen
  have HDI := Lib.hid hdis
  have HSL := Lib.hid hS.1
  have hS0 := hS.sub h.bel
  have HDP := Lib.hid (show ∀ V1, Below W0.heap.size W0 V1 → Calls Tryd.prog 122 #[.slice AT n ct, .slice (some ⟨gf, 0, none⟩) m m, .slice AS ks cs, .int .i64 1] V1 fun e w' => ∃ d, e = .returned (.slice (some ⟨V1.heap.size, 0, none⟩) n n) ∧ RdI w' (some ⟨V1.heap.size, 0, none⟩) n d ∧ Blk w' V1.heap.size 3 (ints d) ∧ Dep n ls f 1 s d ∧ Below V1.heap.size V1 w' from
    fun V1 hb => depths_any AT (some ⟨gf, 0, none⟩) AS n ct m m ks cs 1 ls f s V1 ((h.at0.sub h.bel).below hb) ((h.bf.below hb h.bf.lt).rdI h.lf) (hS0.below hb) hsn (.inl rfl) (fun a l k h1 h2 => ⟨((hk a l h1).2 k h2).2.1, ((hk a l h1).2 k h2).2.2.1, ((hk a l h1).2 k h2).2.2.2⟩) hn (fun a l h1 => (hk a l h1).1) hks)
  clear hk hF hsn hL hE hen hdis hS0
  obtain ⟨y0, y1, y2, y3, y4⟩ := h.bw.five
  have HSX := Lib.hid (show ∀ V : World, (V.cell? ⟨gw, 0, none⟩ = some (.slice AT n ct) ∧ V.cell? ⟨gw, 1, none⟩ = some (.slice (some ⟨gf, 0, none⟩) m m)) → V.cell? ⟨gw, 0, none⟩ = some (.slice AT n ct) ∧ V.cell? ⟨gw, 1, none⟩ = some (.slice (some ⟨gf, 0, none⟩) m m) from fun V h => h)
  go_enter Tryd.func102, Tryd.ntmps102
  go_wp2_with fail
  refine wp_region_held_drew (S := fun V => V.cell? ⟨gw, 0, none⟩ = some (.slice AT n ct) ∧ V.cell? ⟨gw, 1, none⟩ = some (.slice (some ⟨gf, 0, none⟩) m m)) (by kernel_rfl) ⟨y0, y1⟩ (fun _ => ?_)
  refine take_ (i := 0) (d := some 8) (v := ?_) rfl rfl (by kernel_rfl) (by kernel_rfl) (by kernel_rfl) (fun _ _ _ h => h) (by rfl) ?_ (by first | rfl | trivial | assumption) ?_
  rotate_left
  · (intro V hSw; (try (have hF := HSX.out V hSw)); (try (cases hSw)); (try go_split_ands); go_simp; try with_reducible rfl)
  simp only [Act.put, List.setIfInBounds_toArray, List.set_cons_zero, List.set_cons_succ]
  refine take_ (i := 1) (d := some 9) (v := ?_) rfl rfl (by kernel_rfl) (by kernel_rfl) (by kernel_rfl) (fun _ _ _ h => h) (by rfl) ?_ (by first | rfl | trivial | assumption) ?_
  rotate_left
  · (intro V hSw; (try (have hF := HSX.out V hSw)); (try (cases hSw)); (try go_split_ands); go_simp; try with_reducible rfl)
  simp only [Act.put, List.setIfInBounds_toArray, List.set_cons_zero, List.set_cons_succ]
  refine take_ (i := 2) (d := some 10) (v := ?_) rfl rfl (by kernel_rfl) (by kernel_rfl) (by kernel_rfl) (fun _ _ _ h => h) (by rfl) ?_ (by first | rfl | trivial | assumption) ?_
  rotate_left
  · (intro V hSw; (try (have hF := HSX.out V hSw)); (try (cases hSw)); (try go_split_ands); go_simp; try with_reducible rfl)
  simp only [Act.put, List.setIfInBounds_toArray, List.set_cons_zero, List.set_cons_succ]
  refine take_ (i := 3) (d := some 11) (v := ?_) rfl rfl (by kernel_rfl) (by kernel_rfl) (by kernel_rfl) (fun _ _ _ h => h) (by rfl) ?_ (by first | rfl | trivial | assumption) ?_
  rotate_left
  · (intro V hSw; (try (have hF := HSX.out V hSw)); (try (cases hSw)); (try go_split_ands); go_simp; try with_reducible rfl)
  simp only [Act.put, List.setIfInBounds_toArray, List.set_cons_zero, List.set_cons_succ]
  refine take_ (i := 4) (d := some 12) (v := ?_) rfl rfl (by kernel_rfl) (by kernel_rfl) (by kernel_rfl) (fun _ _ _ h => h) (by rfl) ?_ (by first | rfl | trivial | assumption) ?_
  rotate_left
  · (intro V hSw; (try (have hF := HSX.out V hSw)); (try (cases hSw)); (try go_split_ands); go_simp; try with_reducible rfl)
  simp only [Act.put, List.setIfInBounds_toArray, List.set_cons_zero, List.set_cons_succ]
  refine take_ (i := 5) (d := some 13) (v := ?_) rfl rfl (by kernel_rfl) (by kernel_rfl) (by kernel_rfl) (fun _ _ _ h => h) (by rfl) ?_ (by first | rfl | trivial | assumption) ?_
  rotate_left
  · (intro V hSw; (try (have hF := HSX.out V hSw)); (try (cases hSw)); (try go_split_ands); go_simp; try with_reducible rfl)
  simp only [Act.put, List.setIfInBounds_toArray, List.set_cons_zero, List.set_cons_succ]
  refine take_ (i := 6) (d := some 14) (v := ?_) rfl rfl (by kernel_rfl) (by kernel_rfl) (by kernel_rfl) (fun _ _ _ h => h) (by rfl) ?_ (by first | rfl | trivial | assumption) ?_
  rotate_left
  · (intro V hSw; (try (have hF := HSX.out V hSw)); (try (cases hSw)); (try go_split_ands); go_simp; try with_reducible rfl)
  simp only [Act.put, List.setIfInBounds_toArray, List.set_cons_zero, List.set_cons_succ]
  refine take_ (i := 7) (d := some 15) (v := ?_) rfl rfl (by kernel_rfl) (by kernel_rfl) (by kernel_rfl) (fun _ _ _ h => h) (by rfl) ?_ (by first | rfl | trivial | assumption) ?_
  rotate_left
  · (intro V hSw; (try (have hF := HSX.out V hSw)); (try (cases hSw)); (try go_split_ands); go_simp; try with_reducible rfl)
  simp only [Act.put, List.setIfInBounds_toArray, List.set_cons_zero, List.set_cons_succ]
  refine take_ (i := 8) (d := some 16) (v := ?_) rfl rfl (by kernel_rfl) (by kernel_rfl) (by kernel_rfl) (fun _ _ _ h => h) (by rfl) ?_ (by first | rfl | trivial | assumption) ?_
  rotate_left
  · (intro V hSw; (try (have hF := HSX.out V hSw)); (try (cases hSw)); (try go_split_ands); go_simp; try with_reducible rfl)
  simp only [Act.put, List.setIfInBounds_toArray, List.set_cons_zero, List.set_cons_succ]
  refine take_ (i := 9) (d := some 17) (v := ?_) rfl rfl (by kernel_rfl) (by kernel_rfl) (by kernel_rfl) (fun _ _ _ h => h) (by rfl) ?_ (by first | rfl | trivial | assumption) ?_
  rotate_left
  · (intro V hSw; (try (have hF := HSX.out V hSw)); (try (cases hSw)); (try go_split_ands); go_simp; try with_reducible rfl)
  simp only [Act.put, List.setIfInBounds_toArray, List.set_cons_zero, List.set_cons_succ]
  refine wpAnyH_ready (rs := [10]) (by kernel_rfl) (by simp) ?_
  refine AllReadyH.cons (o := _) rfl (fun K hK => ?_) AllReadyH.nil
  go_simp
  with_reducible refine (HDP.out _ (Below.refl _ _).drew).mono ?_
  rintro e w5 ⟨d, rfl, hrd, hbd, hdep, hb5⟩
  have hb05 : Below W0.heap.size W0 w5 := (Below.refl _ _).drew.trans hb5
  have hbd' : Blk w5 W0.heap.size 3 (ints d) := hbd
  have z0 := Below.cellOf hb05 (Nat.le_refl _) y0
  have z1 := Below.cellOf hb05 (Nat.le_refl _) y1
  have hbw5 := h.bw.below hb05 h.bw.lt
  have z3 := hbw5.five.2.2.2.1
  have z3f := hbw5.frozen 3
  have HFR := Lib.hid (show ∀ k, W0.heap.size ≤ k → Freew w0 k from fun k hk => h.bel.free hk)
  have hlt : gw < W0.heap.size ∧ gf < W0.heap.size ∧ ge < W0.heap.size := ⟨h.bw.lt, h.bf.lt, h.be.lt⟩
  have HP5 := Lib.hid (show RdN w0 AT n ls ∧ Subw w0 w5 ∧ Blk w5 gf 3 (ints f) ∧ Blk w5 ge 4 (bools en) from ⟨h.at0, h.bel.below hb05, h.bf.below hb05 h.bf.lt, h.be.below hb05 h.be.lt⟩)
  have HDEP := Lib.hid hdep
  have HH := Lib.hid h
  have u0 : (w5.setCell ⟨gw, 3, none⟩ (.slice (some ⟨W0.heap.size, 0, none⟩) n n)).cell? ⟨gw, 0, none⟩ = some (.slice AT n ct) := by
    rw [World.cell?_setCell_other _ _ _ _ (fun e => by injection e with _ e1; omega)]; exact z0
  have u1 : (w5.setCell ⟨gw, 3, none⟩ (.slice (some ⟨W0.heap.size, 0, none⟩) n n)).cell? ⟨gw, 1, none⟩ = some (.slice (some ⟨gf, 0, none⟩) m m) := by
    rw [World.cell?_setCell_other _ _ _ _ (fun e => by injection e with _ e1; omega)]; exact z1
  clear y0 y1 y2 y3 y4 h hrd hbd hb5 hdep
  go_wp2_with fail
  refine hK.out _ _ ⟨z0, z1⟩ (fun _ => ?_)
  clear hK K
  refine take_ (i := 11) (d := some 19) (v := ?_) rfl rfl (by kernel_rfl) (by kernel_rfl) (by kernel_rfl) (fun _ _ _ h => h) (by rfl) ?_ (by first | rfl | trivial | assumption) ?_
  rotate_left
  · (intro V hSw; (try (have hF := HSX.out V hSw)); (try (cases hSw)); (try go_split_ands); go_simp; try with_reducible rfl)
  simp only [Act.put, List.setIfInBounds_toArray, List.set_cons_zero, List.set_cons_succ]
  refine take_ (i := 12) (d := some 20) (v := ?_) rfl rfl (by kernel_rfl) (by kernel_rfl) (by kernel_rfl) (fun _ _ _ h => h) (by rfl) ?_ (by first | rfl | trivial | assumption) ?_
  rotate_left
  · (intro V hSw; (try (have hF := HSX.out V hSw)); (try (cases hSw)); (try go_split_ands); go_simp; try with_reducible rfl)
  simp only [Act.put, List.setIfInBounds_toArray, List.set_cons_zero, List.set_cons_succ]
  refine wpAnyH_ready (rs := [13]) (by kernel_rfl) (by simp) ?_
  refine AllReadyH.cons (o := _) rfl (fun K hK => ?_) AllReadyH.nil
  go_simp
  refine hK.out _ _ ⟨u0, u1⟩ (fun _ => ?_)
  clear hK K
  refine wpAnyH_done (by kernel_rfl) ?_ _
  obtain ⟨W6, hW6⟩ : ∃ W6, W6 = w5.setCell ⟨gw, 3, none⟩ (.slice (some ⟨W0.heap.size, 0, none⟩) n n) := ⟨_, rfl⟩
  rw [← hW6]
  have bw6 : Blk W6 gw 165 #[.slice AT n ct, .slice (some ⟨gf, 0, none⟩) m m, .slice (some ⟨ge, 0, none⟩) n n, .slice (some ⟨W0.heap.size, 0, none⟩) n n, X4] := by rw [hW6]; exact hbw5.set_ 3 _
  have bf6 : Blk W6 gf 3 (ints f) := by rw [hW6]; exact HP5.out.2.2.1.far_ (Ne.symm HH.out.ne.1) _
  have be6 : Blk W6 ge 4 (bools en) := by rw [hW6]; exact HP5.out.2.2.2.far_ (Ne.symm HH.out.ne.2.1) _
  have bd6 : Blk W6 W0.heap.size 3 (ints d) := by rw [hW6]; exact hbd'.far_ (by omega) _
  have bel6 : Subw w0 W6 := by rw [hW6]; exact HP5.out.2.1.setCell HH.out.z.1 _
  have hkp6 : KeepX (fun k => k = gf ∨ k = gw) W0 W6 := by rw [hW6]; exact ((KeepX.refl _ W0).grown (grownBy_below hb05 none) (fun k e => by cases e)).grown (grownBy_set _ _ _ _) (fun k e => .inl (.inr (by injection e with e; exact e.symm)))
  have hsz6 : W0.heap.size < W6.heap.size := bd6.lt
  have v0 := bw6.five.1
  have v4 := fun o => (bw6.alloc o).five.2.2.2.2
  have v4f := fun o => (bw6.alloc o).frozen 4
  clear hW6 hbd' z0 z1 z3 z3f hbw5 u0 u1 HSX hb05 HP5
  go_wp2_with fail
  have hkn : ∀ o, Blk ((W6.alloc o).setCell ⟨gw, 4, none⟩ (.slice (some ⟨W6.heap.size, 0, none⟩) n n)) gw 165 #[.slice AT n ct, .slice (some ⟨gf, 0, none⟩) m m, .slice (some ⟨ge, 0, none⟩) n n, .slice (some ⟨W0.heap.size, 0, none⟩) n n, .slice (some ⟨W6.heap.size, 0, none⟩) n n] := fun o => (bw6.alloc o).set_ 4 _
  have HWK := Lib.hid (show Wk w0 ((W6.alloc (.cells (zeros (.int .i64 0) n) 3)).setCell ⟨gw, 4, none⟩ (.slice (some ⟨W6.heap.size, 0, none⟩) n n)) n m gw gf ge W0.heap.size W6.heap.size ct AT ls f en d (List.replicate n 0) from
    ⟨HH.out.at0, (bel6.below ((Below.refl _ _).alloc (Nat.le_refl _) _)).setCell HH.out.z.1 _, ⟨HH.out.z.1, HH.out.z.2.1, HH.out.z.2.2, HFR.out _ (Nat.le_refl _), HFR.out _ (Nat.le_of_lt hsz6)⟩, ⟨HH.out.ne.1, HH.out.ne.2.1, by omega, by omega, HH.out.ne.2.2, by omega, by omega, by omega, by omega, by omega⟩,
      hkn _, (bf6.alloc _).far_ (Ne.symm HH.out.ne.1) _, (be6.alloc _).far_ (Ne.symm HH.out.ne.2.1) _, (bd6.alloc _).far_ (by omega) _, by rw [← zeros_int]; exact (Blk.new W6 _ _).far_ (by omega) _, HH.out.lf, HH.out.le, HDEP.out.len, by simp⟩)
  have hkp7 : KeepX (fun k => k = gf ∨ k = gw) W0 ((W6.alloc (.cells (zeros (.int .i64 0) n) 3)).setCell ⟨gw, 4, none⟩ (.slice (some ⟨W6.heap.size, 0, none⟩) n n)) := (hkp6.grown (grownBy_below ((Below.refl _ _).alloc (Nat.le_refl _) _) none) (fun k e => by cases e)).grown (grownBy_set _ _ _ _) (fun k e => .inl (.inr (by injection e with e; exact e.symm)))
  have HN0 := Lib.hid (show NxOk ls (List.replicate n 0) from fun a l hl => ⟨0, by
    have : a < n := by rw [← HH.out.at0.1]; exact (List.getElem?_eq_some_iff.1 hl).1
    rw [List.getElem?_replicate, if_pos this]; rfl, Nat.zero_le _⟩)
  have HE0 := Lib.hid (show ∀ t : Nat, en.getD t false = true → (List.replicate n (0 : Int))[t]? = some 0 from fun t ht => by
    have : t < n := by
      rcases Nat.lt_or_ge t en.length with g | g
      · rw [← HH.out.le]; exact g
      · rw [List.getD_eq_getElem?_getD, List.getElem?_eq_none g] at ht; cases ht
    rw [List.getElem?_replicate, if_pos this])
  have HD0 := Lib.hid (show Done ls f d (List.replicate n 0) from fun a j l x k _ hx hj => by
    have := (List.mem_replicate.1 (List.mem_of_getElem? hx)).2
    omega)
  have HDA := Lib.hid (show ∀ a, -1 ≤ dAt d a ∧ dAt d a < n from fun a => ⟨HDEP.out.lo a, HDEP.out.hi a⟩)
  have hz2 := hkp7.size
  clear bw6 bf6 be6 bd6 bel6 hkp6 v0 v4 v4f hkn hmk
  go_loopw [5, 32] (fun cnt idx W => KeepX (fun k => k = gf ∨ k = gw) W0 W ∧ ∃ (c i : Nat) (f' nx : List Int), i ≤ ks ∧ cnt = .int .i64 c ∧ idx = .int .i64 i ∧ Wk w0 W n m gw gf ge W0.heap.size W6.heap.size ct AT ls f' en d nx ∧ NxOk ls nx ∧ (∀ t : Nat, en.getD t false = true → nx[t]? = some 0) ∧ FlowI E (nats s) dst ((V : Int) + c) f' ∧ (c = 0 → f' = f ∧ Done ls f d nx ∧ ∀ v ∈ s.take i, ∃ l, ls[v]? = some l ∧ nx[v]? = some (l.length : Int))) (fun _ idx _ => ks - (intOf idx).toNat)
  case atStart => exact ⟨hkp7, 0, 0, f, _, Nat.zero_le _, rfl, rfl, HWK.out, HN0.out, HE0.out, by simpa using HF.out, fun _ => ⟨rfl, HD0.out, fun v hv => by simp at hv⟩⟩
  case round =>
    clear hkp7 HWK HN0 HE0 HD0
    obtain ⟨hkp, c, i, f', nx, hi, rfl, rfl, hw, hnx, hend, hfl, hc0⟩ := hrel
    by_cases hlt2 : i < ks
    · obtain ⟨b, o, x, rfl, hx, hcx⟩ := hS.at_ hlt2
      obtain ⟨a, hsa, rfl⟩ := nats_inv hx
      have han := HSN.out a (List.mem_of_getElem? hsa)
      have j1 := hw.bel _ _ hcx
      have HMS := Lib.hid (show (a : Int) ∈ nats s from List.mem_of_getElem? hx)
      have HTK := Lib.hid (show s.take (i + 1) = s.take i ++ [a] by
        have hlt := (List.getElem?_eq_some_iff.1 hsa).1
        rw [List.take_succ_eq_append_getElem hlt, (List.getElem?_eq_some_iff.1 hsa).2])
      have i1 : (0 : Int) ≤ (i : Int) := by omega
      have i2 : (i : Int) < (ks : Int) := by omega
      clear hx hcx hsa
      go_wp2_with fail
      go_loopw [5] (fun cnt W => KeepX (fun k => k = gf ∨ k = gw) W0 W ∧ ∃ (c : Nat) (f' nx : List Int), cnt = .int .i64 c ∧ Wk w0 W n m gw gf ge W0.heap.size W6.heap.size ct AT ls f' en d nx ∧ NxOk ls nx ∧ (∀ t : Nat, en.getD t false = true → nx[t]? = some 0) ∧ FlowI E (nats s) dst ((V : Int) + c) f' ∧ (c = 0 → f' = f ∧ Done ls f d nx ∧ ∀ v ∈ s.take i, ∃ l, ls[v]? = some l ∧ nx[v]? = some (l.length : Int))) (fun cnt _ => m + 1 - (V + (intOf cnt).toNat))
      case atStart => exact ⟨hkp, c, f', nx, rfl, hw, hnx, hend, hfl, hc0⟩
      case round =>
        clear hkp hw hnx hend hfl hc0 j1
        obtain ⟨hkp, c, f', nx, rfl, hw, hnx, hend, hfl, hc0⟩ := hrel
        have hbd := flow_bd hfl HDI.out
        have HFL := Lib.hid hfl
        have HC0 := Lib.hid hc0
        have HEND := Lib.hid hend
        clear hfl hc0 hend
        go_wp2_with fail
        with_reducible refine (push_any w0 wr n m gw gf ge W0.heap.size W6.heap.size ct a AT ls f' en d nx hw HK.out han hnx hn hm HDA.out (near_of HFL.out)).mono ?_
        rintro e w7 ⟨nx', hnx', hexh, hen', hkp', hres⟩
        have hkpn := hkp.push hkp' (by omega)
        have HEND2 := Lib.hid (show ∀ t : Nat, en.getD t false = true → nx'[t]? = some 0 from fun t ht => by rw [hen' t ht]; exact HEND.out t ht)
        have HNX := Lib.hid hnx'
        clear hkp hkp' hen' hnx' hw
        rcases hres with ⟨p, t, hway, hte, rfl, hw'⟩ | ⟨rfl, hw', hdn, hex⟩
        · have hfl2 := flow_push HL.out HFL.out hway HMS.out ((HEN.out t).1 hte)
          have HFL2 := Lib.hid (show FlowI E (nats s) dst ((V : Int) + ((c + 1 : Nat) : Int)) (appAll f' p) by
            rw [show (V : Int) + ((c + 1 : Nat) : Int) = (V : Int) + c + 1 by omega]; exact hfl2)
          have hb2 := flow_bd HFL2.out HDI.out
          have HW := Lib.hid hw'
          have e5 : IntKind.i64.wrap ((c : Int) + 1) = (c : Int) + 1 := IntWalk.i64_in _ (by omega)
          clear hw' hfl2 hway hte hexh
          go_wp2_with fail
          go_roundw
          case rel => exact ⟨hkpn, c + 1, appAll f' p, nx', by go_num, HW.out, HNX.out, HEND2.out, HFL2.out, fun h => absurd h (by omega)⟩
          case measure => simp [intOf]; omega
        · have HW := Lib.hid hw'
          have HCC := Lib.hid (show c = 0 → f' = f ∧ Done ls f d nx' ∧ ∀ v ∈ s.take (i + 1), ∃ l, ls[v]? = some l ∧ nx'[v]? = some (l.length : Int) from fun h0 => by
            obtain ⟨h1, h2, h3⟩ := HC0.out h0
            subst h1
            refine ⟨rfl, hdn h2, fun v hv => ?_⟩
            rw [HTK.out, List.mem_append, List.mem_singleton] at hv
            rcases hv with hv | rfl
            · obtain ⟨l, k1, k2⟩ := h3 v hv
              exact ⟨l, k1, hexh v l k1 k2⟩
            · exact hex)
          clear hw' hdn hex hexh
          go_wp2_with fail
          go_roundw
          case rel => exact ⟨hkpn, c, i + 1, f', nx', by omega, rfl, by go_num, HW.out, HNX.out, HEND2.out, HFL.out, HCC.out⟩
          case measure => simp [intOf]; omega
    · obtain rfl : i = ks := by omega
      have HW := Lib.hid hw
      have HFL := Lib.hid hfl
      have HCC := Lib.hid (show c = 0 → f' = f ∧ ∀ v ∈ dst, ¬ Reach E f (nats s) v from fun h0 => by
        obtain ⟨h1, h2, h3⟩ := hc0 h0
        rw [List.take_of_length_le (by have := HSL.out; rw [nats_len] at this; omega)] at h3
        exact ⟨h1, stuck HL.out HE.out HDEP.out h2 h3 (fun t ht => hend t ((HEN.out t).2 ht)) HDI.out⟩)
      clear hw hfl hc0 hend hnx
      go_wp2_with fail
      go_ret
      exact ⟨c, _, _, d, nx, f', rfl, HW.out, hkp, HFL.out, HCC.out⟩
end Go.Proofs.YtjphjbchhhembaaDoor
