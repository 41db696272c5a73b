/- Parts of the proof: QFl6, QFlM, QFl7. -/
import Derived.Test.YtpffhoefmcpniaaGreatDoorW1
import Derived.Test.YtpffhoefmcpniaaGreatDoorW13
/- flow.sides, walked. -/
namespace Go.Proofs.YtpffhoefmcpniaaGreatDoor
open Go.RowKit

attribute [local go_sem ↓] Go.wp_at_zero Go.wp_at_succ

theorem infoBool : (Tryz.prog.info? 4).map (fun i => (i.zero, i.size, i.bytes)) = some (some (.bool false), 1, 1) := by kernel_rfl
theorem run_makeB (n : Nat) (hn : n ≤ 1000000000) (W : World) : (Instr.makeSlice 160 (.int .i64 (n : Int)) (.int .i64 (n : Int))).run Tryz.prog W = .ok (.slice (some ⟨W.heap.size, 0, none⟩) n n) (W.alloc (.cells (zeros (.bool false) n) 4)) :=
  run_make1 (P := Tryz.prog) 160 4 (.bool false) 1 infoBool Tryz.underlying160 rfl n (by omega) (by omega) .i64 .i64 W
def fillP (p : Int → Bool) (d : List Int) (n k : Nat) : List Bool := (d.take k).map p ++ List.replicate (n - k) false
theorem fillP_zero (p : Int → Bool) (d : List Int) (n : Nat) : bools (fillP p d n 0) = zeros (.bool false) n := by simp [fillP, bools, zeros]
theorem fillP_next {p : Int → Bool} {d : List Int} {n k : Nat} {x : Int} (h : d[k]? = some x) (hk : k < n) : (fillP p d n k).set k (p x) = fillP p d n (k + 1) := by
  have hlt := (List.getElem?_eq_some_iff.1 h).1
  have e := (List.getElem?_eq_some_iff.1 h).2
  have hl : ((d.take k).map p).length = k := by simp; omega
  unfold fillP
  rw [List.set_append_right _ _ (by omega), hl, Nat.sub_self]
  obtain ⟨m, hm⟩ : ∃ m, n - k = m + 1 := ⟨n - k - 1, by omega⟩
  rw [hm, show n - (k + 1) = m by omega, List.replicate_succ, List.set_cons_zero, List.take_succ_eq_append_getElem hlt, e, List.map_append]
  simp
theorem fillP_all {p : Int → Bool} {d : List Int} {n : Nat} (h : d.length = n) : fillP p d n n = d.map p := by
  unfold fillP
  rw [List.take_of_length_le (by omega)]
  simp
theorem fillP_len {p : Int → Bool} {d : List Int} {n k : Nat} (h : d.length = n) (hk : k ≤ n) : (fillP p d n k).length = n := by
  unfold fillP
  simp
  omega
def isNear (x : Int) : Bool := decide (0 ≤ x)
def isFar (x : Int) : Bool := decide (x < 0)

set_option maxHeartbeats 4000000 in
theorem sides_any (AT AF AS AD : Option Addr) (n ct m cf ks cs kd cd : Nat) (ls : List (List Lnk)) (f : List Int) (s t : List Nat) (w : World) (h : RdN w AT n ls) (hf : RdI w AF m f) (hs : RdI w AS ks (nats s)) (ht : RdI w AD kd (nats t)) (hsn : ∀ v ∈ s, v < n) (htn : ∀ v ∈ t, v < n) (hk : LkIn n m ls) (hn : n ≤ 1000000) (hks : ks ≤ 1000000) (hkd : kd ≤ 1000000) :
    Calls Tryz.prog 124 #[.slice AT n ct, .slice AF m cf, .slice AS ks cs, .slice AD kd cd] w fun e w' => ∃ (g1 g2 : Nat) (d1 d2 : List Int), e = .returned (.tuple #[.slice (some ⟨g1, 0, none⟩) n n, .slice (some ⟨g2, 0, none⟩) n n]) ∧ RdB w' (some ⟨g1, 0, none⟩) n (d1.map isNear) ∧ RdB w' (some ⟨g2, 0, none⟩) n (d2.map isFar) ∧ Dep n ls f 1 s d1 ∧ Dep n ls f (-1) t d2 ∧ Below w.heap.size w w' ∧ w.heap.size ≤ g1 ∧ w.heap.size ≤ g2 := by
  have hmk := run_makeB n (by omega)
  have HD1 := Lib.hid (show ∀ V, Below w.heap.size w V → Calls Tryz.prog 131 #[.slice AT n ct, .slice AF m cf, .slice AS ks cs, .int .i64 1] V fun e w' => ∃ d, e = .returned (.slice (some ⟨V.heap.size, 0, none⟩) n n) ∧ RdI w' (some ⟨V.heap.size, 0, none⟩) n d ∧ Blk w' V.heap.size 3 (ints d) ∧ Dep n ls f 1 s d ∧ Below V.heap.size V w' from
    fun V hb => depths_any AT AF AS n ct m cf ks cs 1 ls f s V (h.below hb) (hf.below hb) (hs.below hb) hsn (.inl rfl) (fun a l k h1 h2 => ⟨((hk a l h1).2 k h2).2.1, ((hk a l h1).2 k h2).2.2.1, ((hk a l h1).2 k h2).2.2.2⟩) hn (fun a l h1 => (hk a l h1).1) hks)
  have HD2 := Lib.hid (show ∀ V, Below w.heap.size w V → Calls Tryz.prog 131 #[.slice AT n ct, .slice AF m cf, .slice AD kd cd, .int .i64 (-1)] V fun e w' => ∃ d, e = .returned (.slice (some ⟨V.heap.size, 0, none⟩) n n) ∧ RdI w' (some ⟨V.heap.size, 0, none⟩) n d ∧ Blk w' V.heap.size 3 (ints d) ∧ Dep n ls f (-1) t d ∧ Below V.heap.size V w' from
    fun V hb => depths_any AT AF AD n ct m cf kd cd (-1) ls f t V (h.below hb) (hf.below hb) (ht.below hb) htn (.inr rfl) (fun a l k h1 h2 => ⟨((hk a l h1).2 k h2).2.1, ((hk a l h1).2 k h2).2.2.1, ((hk a l h1).2 k h2).2.2.2⟩) hn (fun a l h1 => (hk a l h1).1) hkd)
  clear h hf hs ht hsn htn hk
  go_enter Tryz.func124, Tryz.ntmps124
  go_wp2_with fail
  (refine calls_named ?_; intro w1 hw1)
  have hb1 : Below w.heap.size w w1 := by rw [hw1]; exact bELt
  have hB1 : Blk w1 w.heap.size 4 (zeros (.bool false) n) := by rw [hw1]; exact Blk.new _ _ _
  clear hw1
  with_reducible refine (HD1.out _ hb1).mono ?_
  rintro e w2 ⟨d1, rfl, hrd1, _, hdep1, hb2⟩
  have hbw2 : Below w.heap.size w w2 := Bel.step hb1 hb2
  have hB2 := hB1.below hb2 hB1.lt
  rw [← fillP_zero isNear d1 n] at hB2
  have HDEP1 := Lib.hid hdep1
  have hl1 := hdep1.len
  have hlt1 := hB1.lt
  clear hB1 hb1 hb2 hdep1 HD1
  go_wp2_with fail
  go_loopw [22] (fun i W => Below w.heap.size w W ∧ ∃ k : Nat, k ≤ n ∧ i = .int .i64 k ∧ Blk W w.heap.size 4 (bools (fillP isNear d1 n k)) ∧ RdI W (some ⟨w1.heap.size, 0, none⟩) n d1) (fun i _ => n - (intOf i).toNat)
  case atStart => exact ⟨hbw2, 0, Nat.zero_le _, rfl, hB2, hrd1⟩
  case round =>
    clear hbw2 hB2 hrd1
    obtain ⟨hbl, k, hk, rfl, hB, hrd⟩ := hrel
    by_cases hlt : k < n
    · obtain ⟨b, o, x, e, hx, hc⟩ := hrd.at_ hlt
      cases e
      rw [Nat.zero_add] at hc
      obtain ⟨z, hz⟩ : ∃ z, (fillP isNear d1 n k)[k]? = some z := ⟨_, List.getElem?_eq_getElem (by rw [fillP_len hl1 hk]; exact hlt)⟩
      have c1 := hB.cellB hz
      have c1f := hB.frozen k
      have HN := Lib.hid (hB.setB (fillP_next (p := isNear) hx hlt))
      have HRD := Lib.hid (hrd.grown (grownBy_set wr w.heap.size k (.bool (isNear x))) (fun e => by injection e with e; simp only at e; omega))
      have hbn : Below w.heap.size w (wr.setCell ⟨w.heap.size, k, none⟩ (.bool (isNear x))) := hbl.setCell (Nat.le_refl _) _
      have i1 : (0 : Int) ≤ (k : Int) := by omega
      have i2 : (k : Int) < (n : Int) := by omega
      clear hB hrd hbl hx hz
      go_wp2_with fail
      go_roundw
      case rel => exact ⟨hbn, k + 1, by omega, by go_num, HN.out, HRD.out⟩
      case measure => simp [intOf]; omega
    · obtain ⟨w9, hw9⟩ : ∃ w9, w9 = wr := ⟨_, rfl⟩
      subst hw9
      obtain rfl : n = k := by omega
      rw [fillP_all hl1] at hB
      have HRB := Lib.hid (hB.rdB (n := n) (by simp [hl1]))
      have hwsz := hB.lt
      have hw9s := hbl.size
      clear hB hrd
      go_wp2_with fail
      (refine calls_named ?_; intro w3 hw3)
      have hb3 : Below w9.heap.size w9 w3 := by rw [hw3]; exact bELt
      have hB3 : Blk w3 w9.heap.size 4 (zeros (.bool false) n) := by rw [hw3]; exact Blk.new _ _ _
      clear hw3
      have hbw3 : Below w.heap.size w w3 := Bel.step hbl hb3
      with_reducible refine (HD2.out _ hbw3).mono ?_
      rintro e w4 ⟨d2, rfl, hrd2, _, hdep2, hb4⟩
      have hb34 : Below w9.heap.size w9 w4 := Bel.step hb3 hb4
      have hB4 := hB3.below hb4 hB3.lt
      rw [← fillP_zero isFar d2 n] at hB4
      have HDEP2 := Lib.hid hdep2
      have hl2 := hdep2.len
      have hlt3 := hB3.lt
      clear hB3 hb3 hb4 hdep2 HD2 hbw3
      go_wp2_with fail
      go_loopw [41] (fun i W => Below w9.heap.size w9 W ∧ ∃ k : Nat, k ≤ n ∧ i = .int .i64 k ∧ Blk W w9.heap.size 4 (bools (fillP isFar d2 n k)) ∧ RdI W (some ⟨w3.heap.size, 0, none⟩) n d2) (fun i _ => n - (intOf i).toNat)
      case atStart => exact ⟨hb34, 0, Nat.zero_le _, rfl, hB4, hrd2⟩
      case round =>
        clear hb34 hB4 hrd2
        obtain ⟨hbl2, k, hk, rfl, hB, hrd⟩ := hrel
        by_cases hlt : k < n
        · obtain ⟨b, o, x, e, hx, hc⟩ := hrd.at_ hlt
          cases e
          rw [Nat.zero_add] at hc
          obtain ⟨z, hz⟩ : ∃ z, (fillP isFar d2 n k)[k]? = some z := ⟨_, List.getElem?_eq_getElem (by rw [fillP_len hl2 hk]; exact hlt)⟩
          have c1 := hB.cellB hz
          have c1f := hB.frozen k
          have HN := Lib.hid (hB.setB (fillP_next (p := isFar) hx hlt))
          have HRD := Lib.hid (hrd.grown (grownBy_set wr w9.heap.size k (.bool (isFar x))) (fun e => by injection e with e; simp only at e; omega))
          have hbn : Below w9.heap.size w9 (wr.setCell ⟨w9.heap.size, k, none⟩ (.bool (isFar x))) := hbl2.setCell (Nat.le_refl _) _
          have i1 : (0 : Int) ≤ (k : Int) := by omega
          have i2 : (k : Int) < (n : Int) := by omega
          clear hB hrd hbl2 hx hz
          go_wp2_with fail
          go_roundw
          case rel => exact ⟨hbn, k + 1, by omega, by go_num, HN.out, HRD.out⟩
          case measure => simp [intOf]; omega
        · obtain rfl : n = k := by omega
          rw [fillP_all hl2] at hB
          have hB' := hB.rdB (n := n) (by simp [hl2])
          have HRB1 := Lib.hid (HRB.out.below hbl2)
          have HBB := Lib.hid (Bel.step hbl hbl2)
          have HRB2 := Lib.hid hB'
          clear hB hB' hrd hbl2
          go_wp2_with fail
          go_ret2
          exact ⟨w.heap.size, w9.heap.size, d1, d2, rfl, HRB1.out, HRB2.out, HDEP1.out, HDEP2.out, HBB.out, Nat.le_refl _, hw9s⟩
end Go.Proofs.YtpffhoefmcpniaaGreatDoor

/- Marks that are set one behind the other: plain. -/
namespace Go.Proofs.YtpffhoefmcpniaaGreatDoor
open Go.RowKit

def setBs (b : List Bool) (l : List Nat) : List Bool := l.foldl (fun b v => b.set v true) b
theorem setBs_len : ∀ (l : List Nat) (b : List Bool), (setBs b l).length = b.length
  | [], _ => rfl
  | v :: l, b => by
    show (setBs (b.set v true) l).length = _
    rw [setBs_len l, List.length_set]
theorem getD_setT (b : List Bool) (v t : Nat) : (b.set v true).getD t false = true ↔ b.getD t false = true ∨ (t = v ∧ t < b.length) := by
  simp only [List.getD_eq_getElem?_getD]
  by_cases h : v = t
  · subst h
    by_cases g : v < b.length
    · rw [List.getElem?_set_self g]; simp [g]
    · rw [List.getElem?_eq_none (by rw [List.length_set]; omega)]
      rw [List.getElem?_eq_none (by omega)]
      simp [g]
  · rw [List.getElem?_set_ne h]
    constructor
    · intro e; exact .inl e
    · rintro (e | ⟨e, _⟩)
      · exact e
      · exact absurd e.symm h
theorem setBs_at : ∀ (l : List Nat) (b : List Bool) (t : Nat), (setBs b l).getD t false = true ↔ b.getD t false = true ∨ (t ∈ l ∧ t < b.length)
  | [], b, t => by simp [setBs]
  | v :: l, b, t => by
    show (setBs (b.set v true) l).getD t false = true ↔ _
    rw [setBs_at l, getD_setT, List.length_set, List.mem_cons]
    constructor
    · rintro ((h | h) | h)
      · exact .inl h
      · exact .inr ⟨.inl h.1, h.2⟩
      · exact .inr ⟨.inr h.1, h.2⟩
    · rintro (h | ⟨h | h, g⟩)
      · exact .inl (.inl h)
      · exact .inl (.inr ⟨h, g⟩)
      · exact .inr ⟨h, g⟩
/-- n marks, of the places of l. -/
def mkB (n : Nat) (l : List Nat) : List Bool := setBs (List.replicate n false) l
theorem mkB_len (n : Nat) (l : List Nat) : (mkB n l).length = n := by unfold mkB; rw [setBs_len, List.length_replicate]
theorem mkB_at (n : Nat) (l : List Nat) (t : Nat) : (mkB n l).getD t false = true ↔ t ∈ l ∧ t < n := by
  unfold mkB
  rw [setBs_at, List.length_replicate]
  have : (List.replicate n false).getD t false = false := by
    rw [List.getD_eq_getElem?_getD, List.getElem?_replicate]; split <;> rfl
  rw [this]
  simp
theorem mkB_nil (n : Nat) (l : List Nat) : bools (mkB n (l.take 0)) = zeros (.bool false) n := by simp [mkB, setBs, bools, zeros]
theorem mkB_next {n k v : Nat} {l : List Nat} (h : l[k]? = some v) : (mkB n (l.take k)).set v true = mkB n (l.take (k + 1)) := by
  have hlt := (List.getElem?_eq_some_iff.1 h).1
  have e := (List.getElem?_eq_some_iff.1 h).2
  rw [List.take_succ_eq_append_getElem hlt, e]
  unfold mkB setBs
  rw [List.foldl_append]
  rfl
theorem nats_getE {s : List Nat} {k : Nat} {x : Int} (h : (nats s)[k]? = some x) : ∃ v : Nat, x = v ∧ s[k]? = some v := by
  unfold nats at h
  rw [List.getElem?_map] at h
  cases e : s[k]? with
  | none => rw [e] at h; cases h
  | some v => rw [e] at h; cases h; exact ⟨v, rfl, rfl⟩
theorem nats_mem {s : List Nat} {v : Nat} : (v : Int) ∈ nats s ↔ v ∈ s := by
  unfold nats
  rw [List.mem_map]
  constructor
  · rintro ⟨a, ha, e⟩
    obtain rfl : a = v := by exact Int.ofNat.inj e
    exact ha
  · intro h; exact ⟨v, h, rfl⟩
end Go.Proofs.YtpffhoefmcpniaaGreatDoor

/- flow.check, of what is right. -/
namespace Go.Proofs.YtpffhoefmcpniaaGreatDoor
open Go.RowKit

attribute [local go_sem ↓] Go.wp_at_zero Go.wp_at_succ

theorem flVertex_ok (v n g : Nat) (w : World) (hv : v < n) (hg : w.cell? ⟨g, 0, none⟩ = some (.int .i64 n)) :
    Calls Tryz.prog 130 #[.int .i64 v, .pointer (some ⟨g, 0, none⟩)] w fun e w' => e = .returned (.bool true) ∧ Below w.heap.size w w' := by
  have i1 : (0 : Int) ≤ (v : Int) := by omega
  have i2 : (v : Int) < (n : Int) := by omega
  go_enter Tryz.func130, Tryz.ntmps130
  go_wp2_with fail
  go_ret
  exact ⟨rfl, bELt⟩

set_option maxHeartbeats 4000000 in
theorem check_ok (A AS AD : Option Addr) (n m c ks cs kd cd : Nat) (E : List Edg) (s t : List Nat) (w : World) (h : RdP w A m E) (hE : Ends n E) (hs : RdI w AS ks (nats s)) (ht : RdI w AD kd (nats t)) (hsn : ∀ v ∈ s, v < n) (htn : ∀ v ∈ t, v < n) (hd : ∀ v ∈ t, v ∉ s) (hn : n ≤ 4096) (hm : m ≤ 16384) (hks : ks ≤ 1000000) (hkd : kd ≤ 1000000) :
    Calls Tryz.prog 121 #[.int .i64 n, .slice A m c, .slice AS ks cs, .slice AD kd cd] w fun e w' => e = .returned .nilIface ∧ Below w.heap.size w w' := by
  have HE := Lib.hid hE
  have HSN := Lib.hid hsn
  have HTN := Lib.hid htn
  have HD := Lib.hid hd
  have HV := Lib.hid (show ∀ (v : Nat) (V : World), v < n → V.cell? ⟨w.heap.size, 0, none⟩ = some (.int .i64 n) → Calls Tryz.prog 130 #[.int .i64 v, .pointer (some ⟨w.heap.size, 0, none⟩)] V fun e w' => e = .returned (.bool true) ∧ Below V.heap.size V w' from fun v V h1 h2 => flVertex_ok v n _ V h1 h2)
  have hmk := run_makeB n (by omega)
  have j0 : decide ((n : Int) < 0) = false := decide_eq_false (by omega)
  have j1 : decide ((n : Int) > 4096) = false := decide_eq_false (by omega)
  have j2 : decide ((m : Int) > 16384) = false := decide_eq_false (by omega)
  clear hE hsn htn hd
  go_enter Tryz.func121, Tryz.ntmps121
  go_wp2_with fail
  (refine wp_named ?_; intro w1 hw1)
  have hb1 : Below w.heap.size w w1 := by rw [hw1]; exact bELt
  have hB1 : Blk w1 w.heap.size 3 #[.int .i64 n] := by rw [hw1]; exact Blk.new _ _ _
  clear hw1
  go_loopw [34] (fun i W => Below w.heap.size w W ∧ Blk W w.heap.size 3 #[.int .i64 n] ∧ ∃ k : Nat, k ≤ m ∧ i = .int .i64 k) (fun i _ => m - (intOf i).toNat)
  case atStart => exact ⟨hb1, hB1, 0, Nat.zero_le _, rfl⟩
  case round =>
    clear hb1 hB1
    obtain ⟨hbl, hB, k, hk, rfl⟩ := hrel
    by_cases hlt : k < m
    · obtain ⟨b, o, x, y, rfl, hx, cx, cy⟩ := h.at_ hlt
      have he := HE.out _ (List.mem_of_getElem? hx)
      obtain ⟨p, rfl⟩ : ∃ p : Nat, x = p := ⟨x.toNat, by simp only at he; omega⟩
      obtain ⟨q, rfl⟩ : ∃ q : Nat, y = q := ⟨y.toNat, by simp only at he; omega⟩
      have hp : p < n := by simp only at he; omega
      have hq : q < n := by simp only at he; omega
      have j1 := Below.cellOf hbl (Nat.le_refl _) cx
      have j2 := Below.cellOf hbl (Nat.le_refl _) cy
      have i1 : (0 : Int) ≤ (k : Int) := by omega
      have i2 : (k : Int) < (m : Int) := by omega
      clear hx he cx cy
      obtain ⟨W2, hW2⟩ : ∃ W2, W2 = wr.alloc (.cells #[.int .i64 p, .int .i64 q] 127) := ⟨_, rfl⟩
      have hbox : Blk W2 wr.heap.size 127 #[.int .i64 p, .int .i64 q] := by rw [hW2]; exact Blk.new _ _ _
      have hB2 : Blk W2 w.heap.size 3 #[.int .i64 n] := by rw [hW2]; exact hB.alloc _
      have hbl2 : Below w.heap.size w W2 := by rw [hW2]; exact bELt
      have HVP := Lib.hid (HV.out p W2 hp (by rw [hB2.cell]; rfl))
      have v1 := hbox.two.1
      have hlt0 := hbox.lt
      go_wp2_with fail
      rw [← hW2]
      with_reducible refine HVP.out.mono ?_
      rintro e w3 ⟨rfl, hb3⟩
      have v2 := (hbox.below hb3 hbox.lt).two.2.1
      have hB3 := hB2.below hb3 hB2.lt
      have hbl3 : Below w.heap.size w w3 := Bel.step hbl2 hb3
      have HVQ := Lib.hid (HV.out q w3 hq (by rw [hB3.cell]; rfl))
      clear HVP v1 hbox hB2 hbl2 hB hbl j1 j2 hb3 hW2
      go_wp2_with fail
      with_reducible refine HVQ.out.mono ?_
      rintro e w4 ⟨rfl, hb4⟩
      have hB4 := hB3.below hb4 hB3.lt
      have hbl4 : Below w.heap.size w w4 := Bel.step hbl3 hb4
      clear HVQ v2 hB3 hbl3 hb4
      go_wp2_with fail
      go_roundw
      case rel => exact ⟨hbl4, hB4, k + 1, by omega, by go_num⟩
      case measure => simp [intOf]; omega
    · obtain ⟨w5, hw5⟩ : ∃ w5, w5 = wr := ⟨_, rfl⟩
      subst hw5
      obtain rfl : m = k := by omega
      have v0 : w5.cell? ⟨w.heap.size, 0, none⟩ = some (.int .i64 n) := by rw [hB.cell]; rfl
      clear HE h
      go_wp2_with fail
      (refine wp_named ?_; intro w6 hw6)
      have hB6 : Blk w6 w.heap.size 3 #[.int .i64 n] := by rw [hw6]; exact hB.alloc _
      have hF6 : Blk w6 w5.heap.size 4 (bools (mkB n (s.take 0))) := by rw [hw6, mkB_nil]; exact Blk.new _ _ _
      have hb6 : Below w.heap.size w w6 := by rw [hw6]; exact bELt
      have hne : w.heap.size < w5.heap.size := hB.lt
      have hsz5 : w.heap.size ≤ w5.heap.size := hbl.size
      clear hw6 hB hbl v0
      go_loopw [58] (fun i W => Below w.heap.size w W ∧ Blk W w.heap.size 3 #[.int .i64 n] ∧ ∃ k : Nat, k ≤ ks ∧ i = .int .i64 k ∧ Blk W w5.heap.size 4 (bools (mkB n (s.take k)))) (fun i _ => ks - (intOf i).toNat)
      case atStart => exact ⟨hb6, hB6, 0, Nat.zero_le _, rfl, hF6⟩
      case round =>
        clear hb6 hB6 hF6
        obtain ⟨hbl, hB, k, hk, rfl, hF⟩ := hrel
        by_cases hlt : k < ks
        · obtain ⟨b, o, x, rfl, hx, cx⟩ := hs.at_ hlt
          obtain ⟨p, hp, rfl⟩ := nats_inv hx
          have hpn := HSN.out p (List.mem_of_getElem? hp)
          have j1 := Below.cellOf hbl (Nat.le_refl _) cx
          have i1 : (0 : Int) ≤ (k : Int) := by omega
          have i2 : (k : Int) < (ks : Int) := by omega
          have i3 : (0 : Int) ≤ (p : Int) := by omega
          have i4 : (p : Int) < (n : Int) := by omega
          have HVP := Lib.hid (HV.out p wr hpn (by rw [hB.cell]; rfl))
          have HN := Lib.hid (mkB_next (n := n) hp)
          clear hx hp cx
          go_wp2_with fail
          with_reducible refine HVP.out.mono ?_
          rintro e w3 ⟨rfl, hb3⟩
          have hB3 := hB.below hb3 hB.lt
          have hF3 := hF.below hb3 hF.lt
          have hbl3 : Below w.heap.size w w3 := Bel.step hbl hb3
          obtain ⟨z, hz⟩ : ∃ z, (mkB n (s.take k))[p]? = some z := ⟨_, List.getElem?_eq_getElem (by rw [mkB_len]; exact hpn)⟩
          have c1 := hF3.cellB hz
          have c1f := hF3.frozen p
          have HF4 := Lib.hid (hF3.setB (x := true) HN.out)
          have HB4 := Lib.hid (hB3.far_ (b := w5.heap.size) (o := p) (Nat.ne_of_lt hne) (.bool true))
          have hbl4 : Below w.heap.size w (w3.setCell ⟨w5.heap.size, p, none⟩ (.bool true)) := hbl3.setCell hsz5 _
          clear HVP hB hF hbl hb3 j1 hB3 hF3 hbl3
          go_wp2_with fail
          go_roundw
          case rel => exact ⟨hbl4, HB4.out, k + 1, by omega, by go_num, HF4.out⟩
          case measure => simp [intOf]; omega
        · obtain ⟨w7, hw7⟩ : ∃ w7, w7 = wr := ⟨_, rfl⟩
          subst hw7
          obtain rfl : ks = k := by omega
          clear HSN hs
          go_wp2_with fail
          go_loopw [15, 75] (fun bo i W => Below w.heap.size w W ∧ Blk W w.heap.size 3 #[.int .i64 n] ∧ ∃ k : Nat, k ≤ kd ∧ bo = .bool false ∧ i = .int .i64 k ∧ Blk W w5.heap.size 4 (bools (mkB n (s.take ks)))) (fun _ i _ => kd - (intOf i).toNat)
          case atStart => exact ⟨hbl, hB, 0, Nat.zero_le _, rfl, rfl, hF⟩
          case round =>
            clear hbl hB hF
            obtain ⟨hbl, hB, k, hk, rfl, rfl, hF⟩ := hrel
            by_cases hlt : k < kd
            · obtain ⟨b, o, x, rfl, hx, cx⟩ := ht.at_ hlt
              obtain ⟨p, hp, rfl⟩ := nats_inv hx
              have hpn := HTN.out p (List.mem_of_getElem? hp)
              have hps := HD.out p (List.mem_of_getElem? hp)
              have j1 := Below.cellOf hbl (Nat.le_refl _) cx
              have i1 : (0 : Int) ≤ (k : Int) := by omega
              have i2 : (k : Int) < (kd : Int) := by omega
              have i3 : (0 : Int) ≤ (p : Int) := by omega
              have i4 : (p : Int) < (n : Int) := by omega
              have HVP := Lib.hid (HV.out p wr hpn (by rw [hB.cell]; rfl))
              have hz : (mkB n (s.take ks))[p]? = some false := by
                have hl : p < (mkB n (s.take ks)).length := by rw [mkB_len]; exact hpn
                rw [List.getElem?_eq_getElem hl]
                have := (not_congr (mkB_at n (s.take ks) p)).2 (fun g => hps (List.mem_of_mem_take g.1))
                rw [List.getD_eq_getElem?_getD, List.getElem?_eq_getElem hl] at this
                simpa using this
              clear hx hp cx hps
              go_wp2_with fail
              with_reducible refine HVP.out.mono ?_
              rintro e w3 ⟨rfl, hb3⟩
              have hB3 := hB.below hb3 hB.lt
              have hF3 := hF.below hb3 hF.lt
              have hbl3 : Below w.heap.size w w3 := Bel.step hbl hb3
              have c1 := hF3.cellB hz
              clear HVP hB hF hbl hb3 j1 hz
              go_wp2_with fail
              go_roundw
              case rel => exact ⟨hbl3, hB3, k + 1, by omega, rfl, by go_num, hF3⟩
              case measure => simp [intOf]; omega
            · obtain rfl : kd = k := by omega
              go_wp2_with fail
              go_ret
              exact ⟨rfl, hbl⟩
end Go.Proofs.YtpffhoefmcpniaaGreatDoor
