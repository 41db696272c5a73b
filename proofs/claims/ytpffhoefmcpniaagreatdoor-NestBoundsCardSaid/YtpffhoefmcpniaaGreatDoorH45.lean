/- Parts of the proof: Si, NeI. -/
import Derived.Test.YtpffhoefmcpniaaGreatDoorH1
import Derived.Test.YtpffhoefmcpniaaGreatDoorH2
import Derived.Test.YtpffhoefmcpniaaGreatDoorH18
import Derived.Test.YtpffhoefmcpniaaGreatDoorH40
/- SameInts, law16.Is. -/
namespace Go.Proofs.YtpffhoefmcpniaaGreatDoor
open Go.RowKit

attribute [local go_sem ↓] Go.wp_at_zero Go.wp_at_succ

set_option maxHeartbeats 1000000 in
theorem sameInts_any (A B : Option Addr) (n m c d : Nat) (l l2 : List Int) (w : World) (h : RdI w A n l) (h2 : RdI w B m l2) (hn : n ≤ 1000000000) (hm : m ≤ 1000000000) :
    Calls Tryz.prog 24 #[.slice A n c, .slice B m d] w fun e w' => e = .returned (.bool (decide (l = l2))) ∧ ∃ k, w' = w.drewN k := by
  have HR := Lib.hid h
  have HR2 := Lib.hid h2
  have HL := Lib.hid h.1
  have HL2 := Lib.hid h2.1
  clear h h2
  by_cases hnm : n = m
  rotate_left
  · have e1 : ((n : Int) != (m : Int)) = true := by simp; omega
    have e2 : ((n : Int) == (m : Int)) = false := by simp; omega
    have HD := Lib.hid (show decide (l = l2) = false from decide_eq_false (fun e => hnm (by rw [← HL.out, ← HL2.out, e])))
    go_enter Tryz.func24, Tryz.ntmps24
    go_wp2_with fail
    go_ret
    exact ⟨ret_bool HD.out.symm, 0, rfl⟩
  subst hnm
  go_enter Tryz.func24, Tryz.ntmps24
  go_wp2_with fail
  go_loopw [5] (fun q W => (∃ k, W = w.drewN k) ∧ ∃ i : Nat, i ≤ n ∧ q = .int .i64 i ∧ ∀ j, j < i → l[j]? = l2[j]?) (fun q _ => n - (intOf q).toNat)
  case atStart => exact ⟨⟨0, rfl⟩, 0, Nat.zero_le _, rfl, fun _ h => absurd h (Nat.not_lt_zero _)⟩
  case round =>
    obtain ⟨hd, i, hi, rfl, hall⟩ := hrel
    have HD := Lib.hid hd
    have HA := Lib.hid hall
    clear hall
    by_cases hlt : i < n
    · obtain ⟨b, o, x, rfl, hx, hc⟩ := HR.out.at_ hlt
      obtain ⟨b', o', y, rfl, hy, hc'⟩ := HR2.out.at_ hlt
      have hc1 : wr.cell? ⟨b, o + i, none⟩ = some (.int .i64 x) := by obtain ⟨k, rfl⟩ := hd; exact hc
      have hc2 : wr.cell? ⟨b', o' + i, none⟩ = some (.int .i64 y) := by obtain ⟨k, rfl⟩ := hd; exact hc'
      have HX := Lib.hid hx
      have HY := Lib.hid hy
      have i1 : (0 : Int) ≤ (i : Int) := by omega
      have i2 : (i : Int) < (n : Int) := by omega
      clear hx hy hc hc' hd
      by_cases e : x = y
      · subst e
        go_wp2_with fail
        go_quiet (fail)
        go_wp2_with fail
        go_roundw
        case rel =>
          obtain ⟨k, e⟩ := HD.out
          refine ⟨⟨k + nq, by rw [e, World.drewN_drewN]⟩, i + 1, by omega, by go_num, fun j hj => ?_⟩
          by_cases ej : j = i
          · subst ej
            rw [HX.out, HY.out]
          · exact HA.out j (by omega)
        case measure => simp [intOf]; omega
      · have e1 : (x != y) = true := by simpa using e
        have e2 : (x == y) = false := by simpa using e
        have HN := Lib.hid (show decide (l = l2) = false from decide_eq_false (fun ee => by
          have := HX.out
          rw [ee, HY.out] at this
          exact e (Option.some.inj this).symm))
        have HE := Lib.hid e
        clear e
        go_wp2_with fail
        go_quiet (fail)
        go_wp2_with fail
        go_ret
        obtain ⟨k, e⟩ := HD.out
        exact ⟨ret_bool HN.out.symm, k + nq, by rw [e, World.drewN_drewN]⟩
    · obtain rfl : n = i := by omega
      have HE := Lib.hid (show decide (l = l2) = true from decide_eq_true (List.ext_getElem? (fun j => by
        rcases Nat.lt_or_ge j n with h | h
        · exact HA.out j h
        · rw [List.getElem?_eq_none (by rw [HL.out]; exact h), List.getElem?_eq_none (by rw [HL2.out]; exact h)])))
      clear hd
      go_wp2_with fail
      go_ret
      exact ⟨ret_bool HE.out.symm, HD.out⟩
end Go.Proofs.YtpffhoefmcpniaaGreatDoor

/- NestBounds: the walk. -/
namespace Go.Proofs.YtpffhoefmcpniaaGreatDoor
open Go.RowKit

attribute [local go_sem ↓] Go.wp_at_zero Go.wp_at_succ

set_option maxHeartbeats 8000000 in
set_option maxRecDepth 20000 in
theorem nestBounds_w (A B C : Option Addr) (n m k c d e : Nat) (N : NetD) (w : World) (h : RdNet w A B C n m k N) (hk : k ≤ 9223372036854775807) (x y : Nat) (hg : w.cell? ⟨0, 0, none⟩ = some errT) (hx : x < 256) (hy : y < 256) :
    Calls Tryz.prog 6 #[.agg #[.slice A n c, .slice B m d, .slice C k e], .int .u8 x, .int .u8 y] w fun r w' => r = .returned (.bool true) ∧ Below w.heap.size w w' := by
  have HH := Lib.hid h
  have HGE := Lib.hid hg
  have hgl := lt_of_cell hg
  clear h hg
  go_enter Tryz.func6, Tryz.ntmps6
  go_wp2_with fail
  (refine calls_named ?_; intro w1 hw1)
  have hb1 : Below w.heap.size w w1 := by rw [hw1]; exact bELt
  have hX1 : Blk w1 w.heap.size 26 #[.slice A n c, .slice B m d, .slice C k e] := by rw [hw1]; exact bLNt
  clear hw1
  with_reducible refine (known14_ok w1 (Below.cellOf hb1 (Nat.le_refl _) HGE.out)).mono ?_
  rintro r w2 ⟨rfl, hb2⟩
  have hX2 := hX1.below hb2 hX1.lt
  have HB2 := Lib.hid (Bel.step hb1 hb2)
  have x0 := hX2.cell 0
  have x1 := hX2.cell 1
  have x2 := hX2.cell 2
  simp only [List.getElem?_toArray, List.getElem?_cons_zero, List.getElem?_cons_succ] at x0 x1 x2
  clear hX1 hb1 hb2
  go_wp2_with fail
  with_reducible refine (small_any A B C n m k c d e N w2 (HH.out.below HB2.out) hk).mono ?_
  rintro r w3 ⟨⟨b, rfl, hG⟩, hb3⟩
  have HB3 := Lib.hid (Bel.step HB2.out hb3)
  have hX3 := hX2.below hb3 hX2.lt
  clear x0 x1 x2 hX2 hb3
  cases b with
  | false =>
    clear hG
    go_wp2_with fail
    go_ret
    exact ⟨rfl, HB3.out⟩
  | true =>
  have hsm := hG rfl
  have hok := hsm.ok
  have hn24 := hsm.v
  clear hG hsm
  have x0 := hX3.cell 0
  have x1 := hX3.cell 1
  have x2 := hX3.cell 2
  simp only [List.getElem?_toArray, List.getElem?_cons_zero, List.getElem?_cons_succ] at x0 x1 x2
  clear hX3
  go_wp2_with fail
  with_reducible refine (made8_ok A B C n m k c d e N w3 (HH.out.below HB3.out) hok).mono ?_
  rintro r w4 ⟨g, rfl, hGr, hb4⟩
  have HG4 := Lib.hid hGr.rd
  have HB4 := Lib.hid (Bel.step HB3.out hb4)
  clear hGr hb4 x0 x1 x2
  obtain ⟨lo, hlo⟩ : ∃ lo, lo = 1 + x % 12 := ⟨_, rfl⟩
  obtain ⟨hi, hhi⟩ : ∃ hi, hi = lo + 1 + y % 12 := ⟨_, rfl⟩
  have elo : 1 + (x : Int) % 12 = (lo : Int) := by omega
  have ehi : (lo : Int) + 1 + (y : Int) % 12 = (hi : Int) := by omega
  have hl1 : 1 ≤ lo := by omega
  have hlh : lo < hi := by omega
  have hh40 : hi ≤ 40 := by omega
  clear hlo hhi
  go_wp2_with fail
  (refine calls_named ?_; intro w5 hw5)
  have hb5 : Below w4.heap.size w4 w5 := by rw [hw5]; exact bELt
  have h5 : RdI w5 (some ⟨w4.heap.size, 0, none⟩) 2 (nats [lo, hi]) := by rw [hw5]; exact (Blk.new w4 3 (ints (nats [lo, hi]))).rdI rfl
  have HP5 := Lib.hid (nestBuild_ok g 2 2 N _ (nats [lo, hi]) w5 (HG4.out.below hb5) h5 (bok_two hl1 hlh) (by rw [natsOf_nats]; intro b hb; simp at hb; omega))
  have HB5 := Lib.hid (Bel.step HB4.out hb5)
  have HG5 := Lib.hid (HG4.out.below hb5)
  clear hw5 hb5 h5
  with_reducible refine HP5.out.mono ?_
  rintro r w6 ⟨Q, rfl, hT, hb6⟩
  rw [natsOf_nats] at hT
  have HB6 := Lib.hid (Bel.step HB5.out hb6)
  have HG6 := Lib.hid (HG5.out.below hb6)
  have HT6 := Lib.hid hT
  clear hb6 HP5 hT HB5 HG5 HB4 HG4 HB3 HB2 HH
  go_wp2_with fail
  (refine wp_named ?_; intro w7 hw7)
  have hb7 : Below w6.heap.size w6 w7 := by rw [hw7]; exact bELt
  have hP7 : Blk w7 w6.heap.size 34 #[.slice Q 2 2] := by rw [hw7]; exact bLNt
  have HG7 := Lib.hid (HG6.out.below hb7)
  have HT7 := Lib.hid (HT6.out.below hb7)
  have HB7 := Lib.hid (Bel.step HB6.out hb7)
  have hR0 : (rowsN N [lo, hi])[0]? = some (rowN N.vs.length (downP N [lo, hi])) := rowsN_get N [lo, hi] 0 (by simp)
  have hR1 : (rowsN N [lo, hi])[1]? = some (rowN N.vs.length (downP N [hi])) := rowsN_get N [lo, hi] 1 (by simp)
  have HR0 := Lib.hid hR0
  have HR1 := Lib.hid hR1
  obtain ⟨ps, hps⟩ : ∃ ps, ps = downP N [hi] := ⟨_, rfl⟩
  have hkp : ps.length ≤ N.vs.length := by rw [hps]; exact down_le N hi []
  have HPS := Lib.hid hps
  have HC2 := Lib.hid (show ∀ V, Below w7.heap.size w7 V → Calls Tryz.prog 22 #[.agg #[.slice Q 2 2], .int .i64 2] V fun e w' => e = .returned (.int .i64 (ps.length : Int)) ∧ Below V.heap.size V w' from fun V hV => by
    have h := count_ok Q 2 2 1 (rowsN N [lo, hi]) _ V (HT7.out.below hV) HR1.out (by omega) (fun x hx => by
      have h := rows_rng N [lo, hi] _ (List.mem_of_getElem? HR1.out) x hx
      omega)
    rw [rows_most, ← HPS.out] at h
    exact h)
  have HC1 := Lib.hid (show ∀ V, Below w7.heap.size w7 V → Calls Tryz.prog 22 #[.agg #[.slice Q 2 2], .int .i64 1] V fun e w' => e = .returned (.int .i64 ((downP N [lo, hi]).length : Int)) ∧ Below V.heap.size V w' from fun V hV => by
    have h := count_ok Q 2 2 0 (rowsN N [lo, hi]) _ V (HT7.out.below hV) HR0.out (by omega) (fun x hx => by
      have h := rows_rng N [lo, hi] _ (List.mem_of_getElem? HR0.out) x hx
      omega)
    rw [rows_most] at h
    exact h)
  have hld : (downP N [lo, hi]).length ≤ N.vs.length := down_le N lo [hi]
  clear hw7 hb7 hR0 hR1 hps
  go_wp2_with fail
  go_loopw [12, 13] (fun a q W => Below w7.heap.size w7 W ∧ ∃ cc : Nat, cc ≤ ps.length ∧ q = .int .i64 (cc : Int) ∧ a = .int .i64 ((nxt N lo (ps.take cc)).length : Int)) (fun _ q _ => ps.length - (intOf q).toNat)
  case atStart => exact ⟨Below.refl _ _, 0, Nat.zero_le _, rfl, rfl⟩
  case round =>
    obtain ⟨hbl, cc, hcc, rfl, rfl⟩ := hrel
    have HBL := Lib.hid hbl
    have hPr := hP7.below hbl hP7.lt
    have p0 : wr.cell? ⟨w6.heap.size, 0, none⟩ = some (.slice Q 2 2) := by rw [hPr.cell]; rfl
    clear hbl hPr
    go_wp2_with fail
    with_reducible refine (HC2.out _ HBL.out).mono ?_
    rintro r w8 ⟨rfl, hb8⟩
    have HB8 := Lib.hid (Bel.step HBL.out hb8)
    have hPr := hP7.below HB8.out hP7.lt
    have p0 : w8.cell? ⟨w6.heap.size, 0, none⟩ = some (.slice Q 2 2) := by rw [hPr.cell]; rfl
    clear hb8 hPr HBL
    by_cases hlt : cc < ps.length
    · have hp := List.getElem?_eq_getElem hlt
      generalize ps[cc] = p at hp
      have hp2 := hp
      rw [HPS.out] at hp2
      have hroom := bnd_room N (lo := lo) hp2
      have htake := bnd_take N (lo := lo) hp2
      obtain ⟨hple, hpn, hpok⟩ := bnd_piece N (show 1 ≤ hi by omega) hp2
      have hnx := fun i q (hq : (pcs N lo p)[i]? = some q) => bnd_next N hp2 hq
      rw [← HPS.out] at hroom htake hnx
      have HTK := Lib.hid htake
      have HNX := Lib.hid hnx
      have HPOK := Lib.hid hpok
      have hpl := hpok.len
      have i1 : (cc : Int) < (ps.length : Int) := by omega
      have HOF := Lib.hid (show ∀ V, Below w7.heap.size w7 V → Calls Tryz.prog 23 #[.agg #[.slice Q 2 2], .int .i64 2, .int .i64 (cc : Int)] V fun e w' => ∃ A k, e = .returned (.slice A p.length k) ∧ RdI w' A p.length (nats p) ∧ p.length ≤ k ∧ k ≤ 9223372036854775807 ∧ Below V.heap.size V w' from fun V hV => by
        have h := partOf14_ok Q 2 2 1 (cc : Int) (rowsN N [lo, hi]) _ V (HT7.out.below hV) HR1.out (by omega) (by rw [rown_len]; omega)
        rw [rown_len, rows_mem N hi [] (by rw [← HPS.out]; exact hp)] at h
        exact h)
      have HPI := Lib.hid (show ∀ V, Below w7.heap.size w7 V → ∀ A k, RdI V A p.length (nats p) → Calls Tryz.prog 19 #[.pointer (some ⟨g, 0, none⟩), .slice A p.length k, .int .i64 (lo : Int)] V (PcPost (pcs N lo p) V) from fun V hV A k hA => by
        have h := nestPieces_ok g lo p.length k N A (nats p) V (HG7.out.below hV) hA (vok_of HPOK.out) hl1 (by omega)
        rw [natsOf_nats] at h
        exact h)
      clear hp hp2 htake hnx hpok
      go_wp2_with fail
      with_reducible refine (HOF.out _ HB8.out).mono ?_
      rintro r w9 ⟨A9, k9, rfl, hr9, hk9, hk9', hb9⟩
      have HB9 := Lib.hid (Bel.step HB8.out hb9)
      have HPC := Lib.hid (HPI.out _ HB9.out A9 k9 hr9)
      clear hr9 hb9 HPI HOF
      go_wp2_with fail
      with_reducible refine HPC.out.mono ?_
      rintro r wa ⟨A10, k10, rfl, hTa, hk10, hk10', hba⟩
      have HBa := Lib.hid (Bel.step HB9.out hba)
      have HTa := Lib.hid hTa
      have e1 : ((p.length : Int) == 0) = false := beq_eq_false_iff_ne.2 (by omega)
      have e2 : ¬ (p.length : Int) > (hi : Int) := by omega
      have e3 : decide (hi < p.length) = false := decide_eq_false (by omega)
      generalize hq : pcs N lo p = q at *
      have hql : q.length ≤ 24 := by omega
      have HQ := Lib.hid hq
      clear hTa hba HPC hq
      go_wp2_with fail
      obtain ⟨W0, rfl⟩ : ∃ W, W = wa := ⟨_, rfl⟩
      go_loopw [12, 17] (fun a x W => Below W0.heap.size W0 W ∧ ∃ i : Nat, i ≤ q.length ∧ x = .int .i64 (i : Int) ∧ a = .int .i64 (((nxt N lo (ps.take cc)).length + i : Nat) : Int)) (fun _ x _ => q.length - (intOf x).toNat)
      case atStart => exact ⟨Below.refl _ _, 0, Nat.zero_le _, rfl, rfl⟩
      case round =>
        obtain ⟨hbl, i, hi2, rfl, rfl⟩ := hrel
        have HBL := Lib.hid hbl
        clear hbl
        by_cases hil : i < q.length
        · have hqi := List.getElem?_eq_getElem hil
          generalize q[i] = v at hqi
          obtain ⟨b, o, A11, n11, c11, l11, rfl, hl11, cl, hr11, _, _⟩ := (HTa.out.below HBL.out).at_ hil
          obtain rfl : l11 = nats v := by
            have : (rowsP q)[i]? = some (nats v) := by simp [rowsP, hqi]
            rw [this] at hl11
            exact (Option.some.inj hl11).symm
          obtain rfl : v.length = n11 := by have := hr11.1; simpa [nats] using this
          have hvl : v.length ≤ lo := by
            have := pcs_le N hl1 p v (by rw [HQ.out]; exact List.mem_of_getElem? hqi)
            exact this
          have hvq : 1 < q.length → lo + 1 ≤ 4 * v.length := fun h => pcs_many N (by rw [HQ.out]; exact h) (by rw [HQ.out]; exact List.mem_of_getElem? hqi)
          have hnx := HNX.out i v hqi
          obtain ⟨at_, hat⟩ : ∃ at_, at_ = (nxt N lo (ps.take cc)).length + i := ⟨_, rfl⟩
          rw [← hat] at hnx ⊢
          have hatn : at_ < 24 := by omega
          have HOF := Lib.hid (show ∀ V, Below w7.heap.size w7 V → Calls Tryz.prog 23 #[.agg #[.slice Q 2 2], .int .i64 1, .int .i64 (at_ : Int)] V fun e w' => ∃ A k, e = .returned (.slice A v.length k) ∧ RdI w' A v.length (nats v) ∧ v.length ≤ k ∧ k ≤ 9223372036854775807 ∧ Below V.heap.size V w' from fun V hV => by
            have h := partOf14_ok Q 2 2 0 (at_ : Int) (rowsN N [lo, hi]) _ V (HT7.out.below hV) HR0.out (by omega) (by rw [rown_len]; omega)
            rw [rown_len, rows_mem N lo [hi] hnx] at h
            exact h)
          have HR11 := Lib.hid hr11
          have hb7r : Below w7.heap.size w7 wr := Bel.step HBa.out HBL.out
          have hPr := hP7.below hb7r hP7.lt
          have p0 : wr.cell? ⟨w6.heap.size, 0, none⟩ = some (.slice Q 2 2) := by rw [hPr.cell]; rfl
          have HB7R := Lib.hid hb7r
          have HVQ := Lib.hid hvq
          have HAT := Lib.hid hat
          have HI := Lib.hid hil
          have j1 : (0 : Int) ≤ (i : Int) := by omega
          have j2 : (i : Int) < (q.length : Int) := by omega
          have j3 : IntKind.i64.wrap ((lo : Int) + 1) = (lo : Int) + 1 := IntWalk.i64_in _ (by omega)
          have j4 : IntKind.i64.wrap (4 * (v.length : Int)) = 4 * (v.length : Int) := IntWalk.i64_in _ (by omega)
          have j5 : decide ((v.length : Int) > (lo : Int)) = false := decide_eq_false (by omega)
          have j6 : decide ((lo : Int) < (v.length : Int)) = false := decide_eq_false (by omega)
          have HSX := Lib.hid (show ∀ V, Below wr.heap.size wr V → V.cell? ⟨b, o + i, none⟩ = some (.slice A11 v.length c11) ∧ V.cell? ⟨w6.heap.size, 0, none⟩ = some (.slice Q 2 2) ∧ (0 : Int) ≤ (i : Int) ∧ (i : Int) < (q.length : Int) ∧ IntKind.i64.wrap ((lo : Int) + 1) = (lo : Int) + 1 ∧ IntKind.i64.wrap (4 * (v.length : Int)) = 4 * (v.length : Int) ∧ decide ((v.length : Int) > (lo : Int)) = false ∧ decide ((lo : Int) < (v.length : Int)) = false ∧ decide (lo < v.length) = false from
            fun V hV => ⟨Below.cellOf hV (Nat.le_refl _) cl, Below.cellOf hV (Nat.le_refl _) p0, j1, j2, j3, j4, j5, j6, decide_eq_false (by omega)⟩)
          clear hqi hl11 hr11 hnx hvq hat hPr hb7r cl p0 hil
          go_wp2_with fail
          refine wp_region_held_drew (S := fun V => Below wr.heap.size wr V) (by kernel_rfl) (Below.refl _ _).drew (fun _ => ?_)
          refine tk 0 82 (h := ⟨_, tv, ?_⟩)
          simp only [pE, List.set]
          refine tk 1 83 (h := ⟨_, tv, ?_⟩)
          simp only [pE, List.set]
          refine tk 2 84 (h := ⟨_, tv, ?_⟩)
          simp only [pE, List.set]
          refine tk 3 85 (h := ⟨_, tv, ?_⟩)
          simp only [pE, List.set]
          refine tk 4 86 (h := ⟨_, tv, ?_⟩)
          simp only [pE, List.set]
          refine tk 5 87 (h := ⟨_, tv, ?_⟩)
          simp only [pE, List.set]
          refine wpAnyH_ready (rs := [6]) (by kernel_rfl) (by simp) ?_
          refine AllReadyH.cons (o := _) rfl (fun K hK => ?_) AllReadyH.nil
          go_simp
          with_reducible refine (HOF.out _ HB7R.out.drew).mono ?_
          rintro e wb ⟨A12, k12, rfl, hr12, _, _, hbb⟩
          have hbb : Below wr.heap.size wr wb := (Below.refl _ _).drew.trans hbb
          have HSI := Lib.hid (sameInts_any A11 A12 v.length v.length c11 k12 (nats v) (nats v) wb (HR11.out.below hbb) hr12 (by omega) (by omega))
          go_simp
          refine hK.out _ _ hbb (fun _ => ?_)
          clear hK K hr12
          refine wpAnyH_ready (rs := [7]) (by kernel_rfl) (by simp) ?_
          refine AllReadyH.cons (o := _) rfl (fun K hK => ?_) AllReadyH.nil
          go_simp
          with_reducible refine HSI.out.mono ?_
          rintro e wc ⟨rfl, kc, rfl⟩
          have hbc : Below wr.heap.size wr (wb.drewN kc) := below_drewN hbb kc
          have HBC := Lib.hid hbc
          rw [decide_eq_true (rfl : nats v = nats v)]
          go_simp
          refine hK.out _ _ hbc (fun _ => ?_)
          clear hK K HSI HOF
          by_cases hq1 : 1 < q.length
          · have hv4 := HVQ.out hq1
            have j7 : decide ((q.length : Int) > 1) = true := decide_eq_true (by omega)
            have j8 : decide (1 < (q.length : Int)) = true := decide_eq_true (by omega)
            have j9 : decide (4 * (v.length : Int) < (lo : Int) + 1) = false := decide_eq_false (by omega)
            have HSX0 := HSX
            clear HSX
            have HSX := Lib.hid (show ∀ V, Below wr.heap.size wr V → (V.cell? ⟨b, o + i, none⟩ = some (.slice A11 v.length c11) ∧ V.cell? ⟨w6.heap.size, 0, none⟩ = some (.slice Q 2 2) ∧ (0 : Int) ≤ (i : Int) ∧ (i : Int) < (q.length : Int) ∧ IntKind.i64.wrap ((lo : Int) + 1) = (lo : Int) + 1 ∧ IntKind.i64.wrap (4 * (v.length : Int)) = 4 * (v.length : Int) ∧ decide ((v.length : Int) > (lo : Int)) = false ∧ decide ((lo : Int) < (v.length : Int)) = false ∧ decide (lo < v.length) = false) ∧ decide ((q.length : Int) > 1) = true ∧ decide (1 < (q.length : Int)) = true ∧ decide (1 < q.length) = true ∧ decide (4 * (v.length : Int) < (lo : Int) + 1) = false ∧ decide (4 * v.length < lo + 1) = false from fun V hV => ⟨HSX0.out V hV, j7, j8, decide_eq_true hq1, j9, decide_eq_false (by omega)⟩)
            refine tk 8 90 (h := ⟨_, tv, ?_⟩)
            simp only [pE, List.set]
            refine tk 9 91 (h := ⟨_, tv, ?_⟩)
            simp only [pE, List.set]
            refine tk 10 92 (h := ⟨_, tv, ?_⟩)
            simp only [pE, List.set]
            refine tk 11 93 (h := ⟨_, tv, ?_⟩)
            simp only [pE, List.set]
            refine tk 12 94 (h := ⟨_, tv, ?_⟩)
            simp only [pE, List.set]
            refine tk 13 95 (h := ⟨_, tv, ?_⟩)
            simp only [pE, List.set]
            refine tk 14 96 (h := ⟨_, tv, ?_⟩)
            simp only [pE, List.set]
            refine tk 15 97 (h := ⟨_, tv, ?_⟩)
            simp only [pE, List.set]
            refine tk 16 98 (h := ⟨_, tv, ?_⟩)
            simp only [pE, List.set]
            refine tk 17 99 (h := ⟨_, tv, ?_⟩)
            simp only [pE, List.set]
            refine tk 18 100 (h := ⟨_, tv, ?_⟩)
            simp only [pE, List.set]
            refine tk 19 101 (h := ⟨_, tv, ?_⟩)
            simp only [pE, List.set]
            refine tk 20 102 (h := ⟨_, tv, ?_⟩)
            simp only [pE, List.set]
            refine tk 21 103 (h := ⟨_, tv, ?_⟩)
            simp only [pE, List.set]
            refine tk 22 104 (h := ⟨_, tv, ?_⟩)
            simp only [pE, List.set]
            refine tk 23 105 (h := ⟨_, tv, ?_⟩)
            simp only [pE, List.set]
            refine tk 24 106 (h := ⟨_, tv, ?_⟩)
            simp only [pE, List.set]
            refine tk 25 107 (h := ⟨_, tv, ?_⟩)
            simp only [pE, List.set]
            refine tk 26 108 (h := ⟨_, tv, ?_⟩)
            simp only [pE, List.set]
            refine tk 27 109 (h := ⟨_, tv, ?_⟩)
            simp only [pE, List.set]
            refine tk 28 110 (h := ⟨_, tv, ?_⟩)
            simp only [pE, List.set]
            refine tk 29 111 (h := ⟨_, tv, ?_⟩)
            simp only [pE, List.set]
            refine tk 30 112 (h := ⟨_, tv, ?_⟩)
            simp only [pE, List.set]
            refine tk 31 113 (h := ⟨_, tv, ?_⟩)
            simp only [pE, List.set]
            refine tk 32 114 (h := ⟨_, tv, ?_⟩)
            simp only [pE, List.set]
            refine tk 33 115 (h := ⟨_, tv, ?_⟩)
            simp only [pE, List.set]
            refine wpAnyH_done (by kernel_rfl) ?_ _
            go_wp2_with fail
            go_roundw
            case rel => exact ⟨Bel.step HBL.out HBC.out, i + 1, by have := HI.out; omega, by go_num, by rw [HAT.out]; go_num⟩
            case measure => have := HI.out; simp [intOf]; omega
          · have j7 : decide ((q.length : Int) > 1) = false := decide_eq_false (by omega)
            have j8 : decide (1 < (q.length : Int)) = false := decide_eq_false (by omega)
            have HSX0 := HSX
            clear HSX
            have HSX := Lib.hid (show ∀ V, Below wr.heap.size wr V → (V.cell? ⟨b, o + i, none⟩ = some (.slice A11 v.length c11) ∧ V.cell? ⟨w6.heap.size, 0, none⟩ = some (.slice Q 2 2) ∧ (0 : Int) ≤ (i : Int) ∧ (i : Int) < (q.length : Int) ∧ IntKind.i64.wrap ((lo : Int) + 1) = (lo : Int) + 1 ∧ IntKind.i64.wrap (4 * (v.length : Int)) = 4 * (v.length : Int) ∧ decide ((v.length : Int) > (lo : Int)) = false ∧ decide ((lo : Int) < (v.length : Int)) = false ∧ decide (lo < v.length) = false) ∧ decide ((q.length : Int) > 1) = false ∧ decide (1 < (q.length : Int)) = false ∧ decide (1 < q.length) = false from fun V hV => ⟨HSX0.out V hV, j7, j8, decide_eq_false hq1⟩)
            refine tk 8 90 (h := ⟨_, tv, ?_⟩)
            simp only [pE, List.set]
            refine tk 9 91 (h := ⟨_, tv, ?_⟩)
            simp only [pE, List.set]
            refine tk 10 92 (h := ⟨_, tv, ?_⟩)
            simp only [pE, List.set]
            refine tk 11 93 (h := ⟨_, tv, ?_⟩)
            simp only [pE, List.set]
            refine tk 12 94 (h := ⟨_, tv, ?_⟩)
            simp only [pE, List.set]
            refine tk 13 95 (h := ⟨_, tv, ?_⟩)
            simp only [pE, List.set]
            refine tk 14 96 (h := ⟨_, tv, ?_⟩)
            simp only [pE, List.set]
            refine tk 15 97 (h := ⟨_, tv, ?_⟩)
            simp only [pE, List.set]
            refine tk 16 98 (h := ⟨_, tv, ?_⟩)
            simp only [pE, List.set]
            refine tk 17 99 (h := ⟨_, tv, ?_⟩)
            simp only [pE, List.set]
            refine tk 18 100 (h := ⟨_, tv, ?_⟩)
            simp only [pE, List.set]
            refine tk 19 101 (h := ⟨_, tv, ?_⟩)
            simp only [pE, List.set]
            refine tk 20 102 (h := ⟨_, tv, ?_⟩)
            simp only [pE, List.set]
            refine tk 21 103 (h := ⟨_, tv, ?_⟩)
            simp only [pE, List.set]
            refine tk 22 104 (h := ⟨_, tv, ?_⟩)
            simp only [pE, List.set]
            refine tu 23 105 (h := ?_)
            simp only [pE, List.set]
            refine tu 24 106 (h := ?_)
            simp only [pE, List.set]
            refine tu 25 107 (h := ?_)
            simp only [pE, List.set]
            refine tu 26 108 (h := ?_)
            simp only [pE, List.set]
            refine tu 27 109 (h := ?_)
            simp only [pE, List.set]
            refine tu 28 110 (h := ?_)
            simp only [pE, List.set]
            refine tu 29 111 (h := ?_)
            simp only [pE, List.set]
            refine tu 30 112 (h := ?_)
            simp only [pE, List.set]
            refine tu 31 113 (h := ?_)
            simp only [pE, List.set]
            refine tk 32 114 (h := ⟨_, tv, ?_⟩)
            simp only [pE, List.set]
            refine tk 33 115 (h := ⟨_, tv, ?_⟩)
            simp only [pE, List.set]
            refine wpAnyH_done (by kernel_rfl) ?_ _
            go_wp2_with fail
            go_roundw
            case rel => exact ⟨Bel.step HBL.out HBC.out, i + 1, by have := HI.out; omega, by go_num, by rw [HAT.out]; go_num⟩
            case measure => have := HI.out; simp [intOf]; omega
        · obtain rfl : i = q.length := by omega
          have HBE := Lib.hid (Bel.step HBa.out HBL.out)
          go_wp2_with fail
          go_roundw
          case rel => exact ⟨HBE.out, cc + 1, by omega, by go_num, by rw [HTK.out]⟩
          case measure => simp [intOf]; omega
    · have HDN := Lib.hid (show (nxt N lo (ps.take cc)).length = (downP N [lo, hi]).length by
        obtain rfl : cc = ps.length := by omega
        have := bnd_all N lo hi
        rw [← HPS.out] at this
        exact this)
      have i1 : ¬ (cc : Int) < (ps.length : Int) := by omega
      rw [HDN.out]
      generalize (downP N [lo, hi]).length = dl at *
      have e1 : ((dl : Int) == (dl : Int)) = true := by simp
      clear HDN
      go_wp2_with fail
      with_reducible refine (HC1.out _ HB8.out).mono ?_
      rintro r w9 ⟨rfl, hb9⟩
      have HB9 := Lib.hid (Bel.step HB8.out hb9)
      clear hb9
      go_wp2_with fail
      go_ret
      exact ⟨rfl, Bel.step HB7.out HB9.out⟩
theorem nestBounds_walk (A B C : Option Addr) (n m k c d e : Nat) (N : NetD) (x y : Int) (w : World) (h : RdNet w A B C n m k N) (hk : k ≤ 9223372036854775807) (hx : 0 ≤ x ∧ x ≤ 255) (hy : 0 ≤ y ∧ y ≤ 255) (hg : w.cell? ⟨0, 0, none⟩ = some errT) :
    Calls Tryz.prog 6 #[.agg #[.slice A n c, .slice B m d, .slice C k e], .int .u8 x, .int .u8 y] w fun r w' => r = .returned (.bool true) ∧ Below w.heap.size w w' := by
  obtain ⟨a, rfl⟩ : ∃ a : Nat, x = (a : Int) := ⟨x.toNat, by omega⟩
  obtain ⟨b, rfl⟩ : ∃ b : Nat, y = (b : Int) := ⟨y.toNat, by omega⟩
  exact nestBounds_w A B C n m k c d e N w h hk a b hg (by omega) (by omega)
end Go.Proofs.YtpffhoefmcpniaaGreatDoor
