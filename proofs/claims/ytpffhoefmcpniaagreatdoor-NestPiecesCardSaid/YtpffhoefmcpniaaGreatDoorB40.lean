/- Parts of the proof: QPc, NeD, RiP, QRi. -/
import Derived.Test.YtpffhoefmcpniaaGreatDoorB1
import Derived.Test.YtpffhoefmcpniaaGreatDoorB2
import Derived.Test.YtpffhoefmcpniaaGreatDoorB20
import Derived.Test.YtpffhoefmcpniaaGreatDoorB21
import Derived.Test.YtpffhoefmcpniaaGreatDoorB22
import Derived.Test.YtpffhoefmcpniaaGreatDoorB32
import Derived.Test.YtpffhoefmcpniaaGreatDoorB39
import Derived.Lib.SliceRun
namespace Go.Proofs.YtpffhoefmcpniaaGreatDoor
open Go.RowKit

attribute [local go_sem ↓] Go.wp_at_zero Go.wp_at_succ

def cntI (l : List Int) (n : Nat) : List Int := (List.range n).map (fun c : Nat => ((l.countP (fun x => x == (c : Int)) : Nat) : Int))
theorem cntI_len (l : List Int) (n : Nat) : (cntI l n).length = n := by simp [cntI]
theorem cntI_get {l : List Int} {n v : Nat} (h : v < n) : (cntI l n)[v]? = some ((l.countP (fun x => x == (v : Int)) : Nat) : Int) := by
 unfold cntI
 rw [List.getElem?_map, List.getElem?_range h]
 rfl
theorem cntI_zero (n : Nat) : ints (cntI [] n) = zeros (.int .i64 0) n := by
 rw [zeros_int]
 congr 1
 apply List.ext_getElem?
 intro i
 rcases Nat.lt_or_ge i n with h | h
 · rw [cntI_get h]; simp [h]
 · rw [List.getElem?_eq_none (by rw [cntI_len]; exact h), List.getElem?_eq_none (by simpa using h)]
theorem cntI_next {l : List Int} {n v k : Nat} (ha : l[k]? = some (v : Int)) (h : v < n) :
 (cntI (l.take k) n).set v ((((l.take k).countP (fun x => x == (v : Int)) : Nat) : Int) + 1) = cntI (l.take (k + 1)) n := by
 apply List.ext_getElem?
 intro i
 rw [List.take_succ_eq_append_getElem (List.getElem?_eq_some_iff.1 ha).1, (List.getElem?_eq_some_iff.1 ha).2]
 rcases Nat.lt_or_ge i n with hi | hi
 · rw [cntI_get hi, List.countP_append]
   by_cases e : v = i
   · subst e
     rw [List.getElem?_set_self (by rw [cntI_len]; exact h)]
     simp
   · rw [List.getElem?_set_ne e, cntI_get hi]
     have : ((v : Int) == (i : Int)) = false := by simp; omega
     simp [this]
 · rw [List.getElem?_eq_none (by rw [List.length_set, cntI_len]; exact hi), List.getElem?_eq_none (by rw [cntI_len]; exact hi)]
theorem cntI_bd (l : List Int) (k : Nat) (v : Int) : (l.take k).countP (fun x => x == v) ≤ k := Nat.le_trans List.countP_le_length (List.length_take_le _ _)
theorem cntI_take (l : List Int) {n m : Nat} (h : m ≤ n) : (cntI l n).take m = cntI l m := by
 apply List.ext_getElem?
 intro i
 rw [List.getElem?_take]
 split
 · rename_i hi
   rw [cntI_get (by omega), cntI_get hi]
 · rw [List.getElem?_eq_none (by rw [cntI_len]; omega)]
theorem cntI_pos {n : Nat} {l : List Int} (h : LvlOk n l) : (0 : Int) ∉ cntI l (mostN l).toNat := by
 intro hm
 unfold cntI at hm
 rw [List.mem_map] at hm
 obtain ⟨c, hc, e⟩ := hm
 rw [List.mem_range] at hc
 have hc2 := h.all c (by omega)
 have := List.countP_pos_iff (p := fun x => x == (c : Int)).2 ⟨(c : Int), hc2, by simp⟩
 omega
set_option maxHeartbeats 1000000 in
theorem tally_ok (A : Option Addr) (n c : Nat) (l : List Int) (w : World) (h : RdI w A n l) (hl : LvlOk n l) (hn : n ≤ 1000000) :
 Calls Tryz.prog 41 #[.slice A n c] w fun e w' => ∃ g, e = .returned (.tuple #[.slice (some ⟨g, 0, none⟩) (mostN l).toNat n, .bool true]) ∧ RdI w' (some ⟨g, 0, none⟩) (mostN l).toNat (cntI l (mostN l).toNat) ∧ Below w.heap.size w w' := by
 have HR := Lib.hid h
 have HL := Lib.hid h.1
 have HO := Lib.hid hl
 have hmk := run_makeI n (by omega)
 clear h hl
 go_enter Tryz.func41, Tryz.ntmps41
 go_wp2_with fail
 (refine wp_named ?_; intro w1 hw1)
 have hb1 : Below w.heap.size w w1 := by rw [hw1]; exact bELt
 have hB1 : Blk w1 w.heap.size 3 (ints (cntI (l.take 0) n)) := by rw [hw1, List.take_zero, cntI_zero]; exact Blk.new _ _ _
 clear hw1 hmk
 go_loopw [6, 15] (fun m q W => Below w.heap.size w W ∧ ∃ k : Nat, k ≤ n ∧ q = .int .i64 k ∧ m = .int .i64 (mostN (l.take k) - 1) ∧ Blk W w.heap.size 3 (ints (cntI (l.take k) n))) (fun _ q _ => n - (intOf q).toNat)
 case atStart => exact ⟨hb1, 0, Nat.zero_le _, rfl, rfl, hB1⟩
 case round =>
  clear hb1 hB1
  obtain ⟨hbl, k, hk, rfl, rfl, hB⟩ := hrel
  by_cases hlt : k < n
  · obtain ⟨b, o, x, rfl, hx, hc⟩ := HR.out.at_ hlt
    have x0 := HO.out.lo x (List.mem_of_getElem? hx)
    have x1 := HO.out.hi x (List.mem_of_getElem? hx)
    obtain ⟨v, rfl⟩ : ∃ v : Nat, x = v := ⟨x.toNat, by omega⟩
    have hv : v < n := by omega
    have hc2 := Below.cellOf hbl (Nat.le_refl _) hc
    have HNX := Lib.hid (mostN_next hx)
    have c1 := hB.cellI (cntI_get (l := l.take k) hv)
    have c1f := hB.frozen v
    have d1 := cntI_bd l k (v : Int)
    have m0 := mostN_nonneg (l.take k)
    have m1 := mostN_le (l := l.take k) (n := (n : Int)) (fun x hx => HO.out.hi x (List.mem_of_mem_take hx)) (by omega)
    have HBN := Lib.hid (hB.setI (cntI_next hx hv))
    have i1 : (0 : Int) ≤ (k : Int) := by omega
    have i2 : (k : Int) < (n : Int) := by omega
    have i3 : (0 : Int) ≤ (v : Int) := by omega
    have i4 : (v : Int) < (n : Int) := by omega
    clear hx hc hB
    generalize (l.take k).countP (fun x => x == (v : Int)) = p at *
    generalize mostN (l.take k) = m at *
    have hbn : Below w.heap.size w (wr.setCell ⟨w.heap.size, v, none⟩ (.int .i64 ((p : Int) + 1))) := hbl.setCell (Nat.le_refl _) _
    have HM := Lib.hid (show (if m - 1 < (v : Int) then (v : Int) else m - 1) = max m ((v : Int) + 1) - 1 ∧ max (m - 1) (v : Int) = max m ((v : Int) + 1) - 1 by constructor <;> (try split) <;> omega)
    go_wp2_with fail
    go_roundw
    case rel => exact ⟨hbn, k + 1, by omega, by go_num, by rw [HNX.out]; first | rw [HM.out.1] | rw [HM.out.2], HBN.out⟩
    case measure => simp [intOf]; omega
  · obtain rfl : n = k := by omega
    rw [List.take_of_length_le (by rw [HL.out]; exact Nat.le_refl _)] at hB
    have HE := Lib.hid (show mostN (l.take n) = mostN l by rw [List.take_of_length_le (by rw [HL.out]; exact Nat.le_refl _)])
    have m0 := mostN_nonneg l
    have m1 := mostN_le (l := l) (n := (n : Int)) (fun x hx => HO.out.hi x hx) (by omega)
    have HP := Lib.hid (cntI_pos HO.out)
    have hrd := (hB.rdI (n := n) (cntI_len l n)).take (m := (mostN l).toNat) (by omega)
    rw [cntI_take l (by omega)] at hrd
    rw [HE.out]
    obtain ⟨M, hM⟩ : ∃ M : Nat, mostN l = M := ⟨(mostN l).toNat, by omega⟩
    rw [hM] at m0 m1 ⊢
    have HMM := Lib.hid hM
    rw [hM, Int.toNat_natCast] at hrd HP
    have HCT := Lib.hid (show Calls Tryz.prog 68 #[.slice (some ⟨w.heap.size, 0, none⟩) M n, .int .i64 0] wr fun e w' => e = .returned (.bool false) ∧ wr = w' from (contains_any _ M n _ 0 wr hrd (by omega)).mono (fun e w' h => ⟨by rw [h.1, decide_eq_false HP.out], h.2⟩))
    have HRD := Lib.hid hrd
    clear hM hrd hB
    have i1 : (M : Int) - 1 + 1 = (M : Int) := by omega
    go_wp2_with fail
    with_reducible refine HCT.out.mono ?_
    rintro e w' ⟨rfl, rfl⟩
    go_wp2_with fail
    go_ret2
    exact ⟨w.heap.size, by rw [HMM.out, Int.toNat_natCast]; rfl, by rw [HMM.out, Int.toNat_natCast]; exact HRD.out, hbl⟩

structure UpI (p l U : List Int) (k : Nat) : Prop where
 len : U.length = p.length
 put : ∀ (v c : Nat) (y : Int), v < k → p[v]? = some (c : Int) → l[v]? = some y → U[c]? = some y
 got : ∀ (c : Nat) (y : Int), U[c]? = some y → y = -1 ∨ ∃ v, v < k ∧ p[v]? = some (c : Int) ∧ l[v]? = some y
theorem UpI.start (p l : List Int) : UpI p l (List.replicate p.length (-1)) 0 :=
 ⟨by simp, fun v _ _ h => absurd h (Nat.not_lt_zero _), fun c y h => .inl (by
  have := List.mem_of_getElem? h
  exact (List.mem_replicate.1 this).2)⟩
theorem UpI.next {p l U : List Int} {k c : Nat} {y : Int} (h : UpI p l U k) (hn : NestOk p l) (hp : p[k]? = some (c : Int)) (hl : l[k]? = some y) (hc : c < p.length) : UpI p l (U.set c y) (k + 1) := by
 refine ⟨by rw [List.length_set]; exact h.len, fun v d z hv h1 h2 => ?_, fun d z hz => ?_⟩
 · by_cases e : c = d
   · subst e
     rw [List.getElem?_set_self (by rw [h.len]; exact hc)]
     have q1 := hn v k _ _ _ _ h1 hp h2 hl (Int.le_refl _)
     have q2 := hn k v _ _ _ _ hp h1 hl h2 (Int.le_refl _)
     congr 1
     omega
   · rw [List.getElem?_set_ne e]
     by_cases ev : v = k
     · subst ev
       rw [hp] at h1
       injection h1 with h1
       omega
     · exact h.put v d z (by omega) h1 h2
 · by_cases e : c = d
   · subst e
     rw [List.getElem?_set_self (by rw [h.len]; exact hc)] at hz
     cases hz
     exact .inr ⟨k, by omega, hp, hl⟩
   · rw [List.getElem?_set_ne e] at hz
     rcases h.got d z hz with h1 | ⟨v, h1, h2⟩
     · exact .inl h1
     · exact .inr ⟨v, by omega, h2⟩
theorem UpI.eq {p l U : List Int} {k c : Nat} {y z : Int} (h : UpI p l U k) (hn : NestOk p l) (hp : p[k]? = some (c : Int)) (hl : l[k]? = some y) (hz : U[c]? = some z) : z = -1 ∨ z = y := by
 rcases h.got c z hz with h1 | ⟨v, h1, h2, h3⟩
 · exact .inl h1
 · have q1 := hn v k _ _ _ _ h2 hp h3 hl (Int.le_refl _)
   have q2 := hn k v _ _ _ _ hp h2 hl h3 (Int.le_refl _)
   exact .inr (by omega)
theorem UpI.sorted {p l U : List Int} {n : Nat} (h : UpI p l U n) (hn : NestOk p l) (hp : LvlOk n p) (hl : l.length = n) : sortedB (U.take (mostN p).toNat) = true := by
 refine sortedB_of (fun j x y h1 h2 => ?_)
 rw [List.getElem?_take] at h1 h2
 split at h1
 · rename_i q1
   split at h2
   · rename_i q2
     obtain ⟨a, ha⟩ := List.getElem?_of_mem (hp.all j (by omega))
     obtain ⟨b, hb⟩ := List.getElem?_of_mem (hp.all (j + 1) (by omega))
     have la := (List.getElem?_eq_some_iff.1 ha).1
     have lb := (List.getElem?_eq_some_iff.1 hb).1
     rw [hp.len] at la lb
     have ea : l[a]? = some l[a] := List.getElem?_eq_getElem (by omega)
     have eb : l[b]? = some l[b] := List.getElem?_eq_getElem (by omega)
     have p1 := h.put a j _ la ha ea
     have p2 := h.put b (j + 1) _ lb hb eb
     rw [p1] at h1
     rw [p2] at h2
     cases h1
     cases h2
     exact hn a b _ _ _ _ ha hb ea eb (by omega)
   · cases h2
 · cases h1
theorem min1_next {n k : Nat} (h : k < n) : (List.replicate k (-1 : Int) ++ List.replicate (n - k) 0).set k (-1) = List.replicate (k + 1) (-1) ++ List.replicate (n - (k + 1)) 0 := by
 rw [List.set_append_right _ _ (by simp)]
 obtain ⟨m, hm⟩ : ∃ m, n - k = m + 1 := ⟨n - k - 1, by omega⟩
 rw [hm, show n - (k + 1) = m by omega, List.replicate_succ' (n := k)]
 simp [List.replicate_succ]
set_option maxHeartbeats 2000000 in
theorem nested_ok (A B : Option Addr) (n c d : Nat) (p l : List Int) (w : World) (h : RdI w A n p) (h2 : RdI w B n l) (hp : LvlOk n p) (hl : LvlOk n l) (hN : NestOk p l) (hn : n ≤ 1000000) :
 Calls Tryz.prog 42 #[.slice A n c, .slice B n d] w fun e w' => e = .returned (.bool true) ∧ Below w.heap.size w w' := by
 have HR := Lib.hid h
 have HR2 := Lib.hid h2
 have HL := Lib.hid h.1
 have HO := Lib.hid hp
 have HO2 := Lib.hid hl
 have HN := Lib.hid hN
 have hmk := run_makeI n (by omega)
 clear h h2 hl hp hN
 go_enter Tryz.func42, Tryz.ntmps42
 go_wp2_with fail
 (refine wp_named ?_; intro w1 hw1)
 have hb1 : Below w.heap.size w w1 := by rw [hw1]; exact bELt
 have hB1 : Blk w1 w.heap.size 3 (ints (List.replicate 0 (-1) ++ List.replicate (n - 0) 0)) := by rw [hw1]; simp only [List.replicate_zero, List.nil_append, Nat.sub_zero]; rw [← zeros_int]; exact Blk.new _ _ _
 clear hw1 hmk
 go_loopw [15] (fun q W => Below w.heap.size w W ∧ ∃ k : Nat, k ≤ n ∧ q = .int .i64 k ∧ Blk W w.heap.size 3 (ints (List.replicate k (-1) ++ List.replicate (n - k) 0))) (fun q _ => n - (intOf q).toNat)
 case atStart => exact ⟨hb1, 0, Nat.zero_le _, rfl, hB1⟩
 case round =>
  clear hb1 hB1
  obtain ⟨hbl, k, hk, rfl, hB⟩ := hrel
  by_cases hlt : k < n
  · obtain ⟨z, hz⟩ : ∃ z, (List.replicate k (-1 : Int) ++ List.replicate (n - k) 0)[k]? = some z := ⟨_, List.getElem?_eq_getElem (by simp; omega)⟩
    have c1 := hB.cellI hz
    have c1f := hB.frozen k
    have HB := Lib.hid (hB.setI (min1_next hlt))
    have hbn : Below w.heap.size w (wr.setCell ⟨w.heap.size, k, none⟩ (.int .i64 (-1))) := hbl.setCell (Nat.le_refl _) _
    have i1 : (0 : Int) ≤ (k : Int) := by omega
    have i2 : (k : Int) < (n : Int) := by omega
    clear hB hz hbl
    go_wp2_with fail
    go_roundw
    case rel => exact ⟨hbn, k + 1, by omega, by go_num, HB.out⟩
    case measure => simp [intOf]; omega
  · obtain rfl : n = k := by omega
    rw [Nat.sub_self, List.replicate_zero, List.append_nil] at hB
    have HU := Lib.hid (show UpI p l (List.replicate n (-1)) 0 from by have := UpI.start p l; rw [HL.out] at this; exact this)
    go_wp2_with fail
    go_loopw [7, 24] (fun m q W => Below w.heap.size w W ∧ ∃ (k : Nat) (U : List Int), k ≤ n ∧ q = .int .i64 k ∧ m = .int .i64 (mostN (p.take k) - 1) ∧ Blk W w.heap.size 3 (ints U) ∧ UpI p l U k) (fun _ q _ => n - (intOf q).toNat)
    case atStart => exact ⟨hbl, 0, _, Nat.zero_le _, rfl, rfl, hB, HU.out⟩
    case round =>
     clear hbl hB HU
     obtain ⟨hbl, k, U, hk, rfl, rfl, hB, hU⟩ := hrel
     have HU := Lib.hid hU
     by_cases hlt2 : k < n
     · obtain ⟨b, o, x, rfl, hx, hc⟩ := HR.out.at_ hlt2
       obtain ⟨b2, o2, y, rfl, hy, hcy⟩ := HR2.out.at_ hlt2
       have x0 := HO.out.lo x (List.mem_of_getElem? hx)
       have x1 := HO.out.hi x (List.mem_of_getElem? hx)
       have y0 := HO2.out.lo y (List.mem_of_getElem? hy)
       obtain ⟨v, rfl⟩ : ∃ v : Nat, x = v := ⟨x.toNat, by omega⟩
       have hv : v < n := by omega
       have hc2 := Below.cellOf hbl (Nat.le_refl _) hc
       have hcy2 := Below.cellOf hbl (Nat.le_refl _) hcy
       have HNX := Lib.hid (mostN_next hx)
       obtain ⟨z, hz⟩ : ∃ z, U[v]? = some z := ⟨_, List.getElem?_eq_getElem (by rw [hU.len, HL.out]; exact hv)⟩
       have hzz := hU.eq HN.out hx hy hz
       have c1 := hB.cellI hz
       have c1f := hB.frozen v
       have m0 := mostN_nonneg (p.take k)
       have m1 := mostN_le (l := p.take k) (n := (n : Int)) (fun x hx => HO.out.hi x (List.mem_of_mem_take hx)) (by omega)
       have HBN := Lib.hid (hB.setI (l' := U.set v y) rfl)
       have HUN := Lib.hid (hU.next HN.out hx hy (by rw [HL.out]; exact hv))
       have i1 : (0 : Int) ≤ (k : Int) := by omega
       have i2 : (k : Int) < (n : Int) := by omega
       have i3 : (0 : Int) ≤ (v : Int) := by omega
       have i4 : (v : Int) < (n : Int) := by omega
       have hbn : Below w.heap.size w (wr.setCell ⟨w.heap.size, v, none⟩ (.int .i64 y)) := hbl.setCell (Nat.le_refl _) _
       clear hx hy hc hcy hB hU hz HU hbl
       generalize mostN (p.take k) = m at *
       have HM := Lib.hid (show (if m - 1 < (v : Int) then (v : Int) else m - 1) = max m ((v : Int) + 1) - 1 ∧ max (m - 1) (v : Int) = max m ((v : Int) + 1) - 1 by constructor <;> (try split) <;> omega)
       by_cases hz0 : z ≥ 0
       · obtain rfl : z = y := by omega
         clear hzz
         go_wp2_with fail
         go_quiet (fail)
         go_wp2_with fail
         go_roundw
         case rel => exact ⟨below_drewN hbn _, k + 1, _, by omega, by go_num, by rw [HNX.out]; first | rw [HM.out.1] | rw [HM.out.2], HBN.out.drewN _, HUN.out⟩
         case measure => simp [intOf]; omega
       · obtain rfl : z = -1 := by omega
         clear hzz hz0
         go_wp2_with fail
         go_quiet (fail)
         go_wp2_with fail
         go_roundw
         case rel => exact ⟨below_drewN hbn _, k + 1, _, by omega, by go_num, by rw [HNX.out]; first | rw [HM.out.1] | rw [HM.out.2], HBN.out.drewN _, HUN.out⟩
         case measure => simp [intOf]; omega
     · obtain rfl : n = k := by omega
       have HE := Lib.hid (show mostN (p.take n) = mostN p by rw [List.take_of_length_le (by rw [HL.out]; exact Nat.le_refl _)])
       have m0 := mostN_nonneg p
       have m1 := mostN_le (l := p) (n := (n : Int)) (fun x hx => HO.out.hi x hx) (by omega)
       have HS := Lib.hid (hU.sorted HN.out HO.out HO2.out.len)
       have hrd := (hB.rdI (n := n) (by rw [hU.len]; exact HL.out)).take (m := (mostN p).toNat) (by omega)
       rw [HE.out]
       obtain ⟨M, hM⟩ : ∃ M : Nat, mostN p = M := ⟨(mostN p).toNat, by omega⟩
       rw [hM] at m0 m1 ⊢
       rw [hM, Int.toNat_natCast] at hrd HS
       have HCT := Lib.hid (show Calls Tryz.prog 69 #[.slice (some ⟨w.heap.size, 0, none⟩) M n] wr fun e w' => e = .returned (.bool true) ∧ ∃ k, w' = wr.drewN k from (isSorted_any _ M n _ wr hrd (by omega)).mono (fun e w' h => ⟨by rw [h.1, HS.out], h.2⟩))
       have i1 : (M : Int) - 1 + 1 = (M : Int) := by omega
       clear hM hrd hB hU HE HU
       go_wp2_with fail
       with_reducible refine HCT.out.mono ?_
       rintro e w' ⟨rfl, nq, hw'⟩
       have hbe : Below w.heap.size w w' := by rw [hw']; exact below_drewN hbl _
       clear hw'
       go_wp2_with fail
       go_ret
       exact ⟨rfl, hbe⟩

end Go.Proofs.YtpffhoefmcpniaaGreatDoor

namespace Go.Proofs.YtpffhoefmcpniaaGreatDoor
open Go.RowKit

attribute [local go_sem ↓] Go.wp_at_zero Go.wp_at_succ

set_option maxHeartbeats 1000000 in
theorem indexFunc_no (A : Option Addr) (n c g : Nat) (lb : Array Value) (w : World) (eg : ∀ args w, (callFunc g args).run Tryz.prog w = .ok (.enter g args) w) (hn : n ≤ 4000000000000000000)
 (hc : ∀ i, i < n → ∃ b o v, A = some ⟨b, o, none⟩ ∧ w.cell? ⟨b, o + i, none⟩ = some v ∧ ∀ W, Below w.heap.size w W → Calls Tryz.prog g (#[v] ++ lb) W fun e w' => e = .returned (.bool false) ∧ Below W.heap.size W w') :
 Calls Tryz.prog 70 #[.slice A n c, .func (.func g) #[] lb] w fun e w' => e = .returned (.int .i64 (-1)) ∧ Below w.heap.size w w' := by
 have HC := Lib.hid hc
 clear hc
 go_enter Tryz.func70, Tryz.ntmps70
 go_wp2_with fail
 go_loopw [8] (fun i W => Below w.heap.size w W ∧ ∃ k : Nat, k ≤ n ∧ i = .int .i64 k) (fun i _ => n - (intOf i).toNat)
 case atStart => exact ⟨Below.refl _ _, 0, Nat.zero_le _, rfl⟩
 case round =>
  obtain ⟨hbl, k, hk, rfl⟩ := hrel
  by_cases hlt : k < n
  · obtain ⟨b, o, v, rfl, hv, hcall⟩ := HC.out k hlt
    have hv2 := Below.cellOf hbl (Nat.le_refl _) hv
    have HK := Lib.hid hcall
    clear hcall hv
    go_wp2_with fail
    with_reducible refine (HK.out _ hbl).mono ?_
    rintro e w2 ⟨rfl, hb2⟩
    go_wp2_with fail
    go_roundw
    case rel => exact ⟨bELt, k + 1, by omega, by go_num⟩
    case measure => simp [intOf]; omega
  · obtain rfl : k = n := by omega
    go_wp2_with fail
    go_ret
    exact ⟨rfl, bELt⟩
theorem check1_no (gb gx L cb i : Nat) (AB : Option Addr) (bs : List Int) (x y : Int) (w : World) (h1 : w.cell? ⟨gb, 0, none⟩ = some (.slice AB L cb)) (h2 : w.cell? ⟨gx, 0, none⟩ = some (.int .i64 (i : Int))) (hB : RdI w AB L bs) (hy : bs[i]? = some y) (hx : x ≤ y) :
 Calls Tryz.prog 44 #[.int .i64 x, .pointer (some ⟨gb, 0, none⟩), .pointer (some ⟨gx, 0, none⟩)] w fun e w' => e = .returned (.bool false) ∧ Below w.heap.size w w' := by
 have hi : i < L := by rw [← hB.1]; exact (List.getElem?_eq_some_iff.1 hy).1
 obtain ⟨b, o, y', rfl, hy', hc⟩ := hB.at_ hi
 rw [hy] at hy'
 obtain rfl : y = y' := by injection hy'
 have i1 : (0 : Int) ≤ (i : Int) := by omega
 have i2 : (i : Int) < (L : Int) := by omega
 have i3 : ¬ x > y := by omega
 clear hB hy hy'
 go_enter Tryz.func44, Tryz.ntmps44
 go_wp2_with fail
 go_ret
 exact ⟨rfl, bELt⟩
theorem contains_no (A : Option Addr) (n c : Nat) (cnt : List Int) (gb gx L cb i : Nat) (AB : Option Addr) (bs : List Int) (y : Int) (w : World) (h : RdI w A n cnt) (hn : n ≤ 4000000000000000000) (h1 : w.cell? ⟨gb, 0, none⟩ = some (.slice AB L cb)) (h2 : w.cell? ⟨gx, 0, none⟩ = some (.int .i64 (i : Int))) (hB : RdI w AB L bs) (hy : bs[i]? = some y) (hle : ∀ x ∈ cnt, x ≤ y) :
 Calls Tryz.prog 43 #[.slice A n c, .func (.func 44) #[] #[.pointer (some ⟨gb, 0, none⟩), .pointer (some ⟨gx, 0, none⟩)]] w fun e w' => e = .returned (.bool false) ∧ Below w.heap.size w w' := by
 have HIX := Lib.hid (indexFunc_no A n c 44 #[.pointer (some ⟨gb, 0, none⟩), .pointer (some ⟨gx, 0, none⟩)] w (enters_of Tryz.func44 (by kernel_rfl) rfl) hn (fun j hj => by
  obtain ⟨b, o, x, e, hx, hc⟩ := h.at_ hj
  exact ⟨b, o, _, e, hc, fun W hW => check1_no gb gx L cb i AB bs x y W (Below.cellOf hW (Nat.le_refl _) h1) (Below.cellOf hW (Nat.le_refl _) h2) (hB.below hW) hy (hle x (List.mem_of_getElem? hx))⟩))
 clear h h1 h2 hB hle
 go_enter Tryz.func43, Tryz.ntmps43
 go_wp2_with fail
 with_reducible refine HIX.out.mono ?_
 rintro e w2 ⟨rfl, hb2⟩
 go_wp2_with fail
 go_ret
 exact ⟨rfl, bELt⟩
set_option maxHeartbeats 4000000 in
theorem partCheckB_ok (Q AB : Option Addr) (n L cq cb : Nat) (ls : List (List Int)) (bs : List Int) (w : World) (h : RdT w Q L ls) (hP : PartOk n ls) (hn : n ≤ 4096) (hbs : RdI w AB L bs) (hcn : ∀ (i : Nat) l y, ls[i]? = some l → bs[i]? = some y → ∀ x ∈ cntI l (mostN l).toNat, x ≤ y) :
 Calls Tryz.prog 18 #[.int .i64 n, .agg #[.slice Q L cq], .slice AB L cb] w fun e w' => e = .returned .nilIface ∧ Below w.heap.size w w' := by
 have HT := Lib.hid h
 have HP := Lib.hid hP
 have l1 : 1 ≤ L := by rw [← h.1]; exact hP.l1
 have l6 : L ≤ 6 := by rw [← h.1]; exact hP.l6
 have HLEN := Lib.hid h.1
 have HBS := Lib.hid hbs
 have HCN := Lib.hid hcn
 have j6 : (L : Int) > 0 := by omega
 clear h hP hbs hcn
 have j1 : ((L : Int) == 0) = false := by simp; omega
 have j2 : ¬ (n : Int) < 0 := by omega
 have j3 : ¬ (n : Int) > 4096 := by omega
 have j4 : ¬ (L : Int) > 6 := by omega
 have j5 : ¬ L = 0 := by omega
 go_enter Tryz.func18, Tryz.ntmps18
 go_wp2_with fail
 (refine wp_named ?_; intro w1 hw1)
 have hb1 : Below w.heap.size w w1 := by rw [hw1]; exact bELt
 have hQ : Blk w1 w.heap.size 34 #[.slice Q L cq] := by rw [hw1]; exact bLNt
 have hBd : Blk w1 (w.heap.size + 1) 27 #[.slice AB L cb] := by rw [hw1]; exact bLNt
 clear hw1
 go_loopw [45] (fun q W => Below w.heap.size w W ∧ Blk W w.heap.size 34 #[.slice Q L cq] ∧ Blk W (w.heap.size + 1) 27 #[.slice AB L cb] ∧ ∃ i : Nat, i ≤ L ∧ q = .int .i64 i) (fun q _ => L - (intOf q).toNat)
 case atStart => exact ⟨hb1, hQ, hBd, 0, Nat.zero_le _, rfl⟩
 case round =>
  clear hb1 hQ hBd
  obtain ⟨hbl, hQ, hBd, i, hi, rfl⟩ := hrel
  by_cases hlt : i < L
  · obtain ⟨b, o, A, m, c, l, rfl, hl, hc, hr, q1, q2⟩ := HT.out.at_ hlt
    have hlo := HP.out.lvl l (List.mem_of_getElem? hl)
    obtain rfl : m = n := by rw [← hr.1]; exact hlo.len
    have hcc := Below.cellOf hbl (Nat.le_refl _) hc
    have HTL := Lib.hid (show ∀ V, Below w.heap.size w V → Calls Tryz.prog 41 #[.slice A m c] V fun e w' => ∃ g, e = .returned (.tuple #[.slice (some ⟨g, 0, none⟩) (mostN l).toNat m, .bool true]) ∧ RdI w' (some ⟨g, 0, none⟩) (mostN l).toNat (cntI l (mostN l).toNat) ∧ Below V.heap.size V w' from fun V hV => tally_ok A m c l V (hr.below hV) hlo (by omega))
    have HR := Lib.hid hr
    have HLO := Lib.hid hlo
    have HLL := Lib.hid hl
    obtain ⟨y, hy⟩ : ∃ y, bs[i]? = some y := ⟨_, List.getElem?_eq_getElem (by rw [HBS.out.1]; exact hlt)⟩
    have HY := Lib.hid hy
    have HLE := Lib.hid (HCN.out i l y hl hy)
    have HCF := Lib.hid (show ∀ (V : World) (g k gx : Nat), Below w.heap.size w V → RdI V (some ⟨g, 0, none⟩) (mostN l).toNat (cntI l (mostN l).toNat) → V.cell? ⟨w.heap.size + 1, 0, none⟩ = some (.slice AB L cb) → V.cell? ⟨gx, 0, none⟩ = some (.int .i64 (i : Int)) → Calls Tryz.prog 43 #[.slice (some ⟨g, 0, none⟩) (mostN l).toNat k, .func (.func 44) #[] #[.pointer (some ⟨w.heap.size + 1, 0, none⟩), .pointer (some ⟨gx, 0, none⟩)]] V fun e w' => e = .returned (.bool false) ∧ Below V.heap.size V w' from
     fun V g k gx hV h1 h2 h3 => contains_no _ _ k _ (w.heap.size + 1) gx L cb i AB bs y V h1 (by have := mostN_le (n := (m : Int)) hlo.hi (by omega); omega) h2 h3 (HBS.out.below hV) HY.out HLE.out)
    clear hy
    have i1 : (0 : Int) ≤ (i : Int) := by omega
    have i2 : (i : Int) < (L : Int) := by omega
    clear hr hlo hl hc q1
    by_cases hi0 : i = 0
    · have e0 : ¬ ((i : Int) > 0) := by omega
      have e00 : ¬ (0 < i) := by omega
      clear hi0
      go_wp2_with fail
      (refine calls_named ?_; intro w2 hw2)
      have hb2 : Below wr.heap.size wr w2 := by rw [hw2]; exact bELt
      have hX : Blk w2 wr.heap.size 3 #[.int .i64 (i : Int)] := by rw [hw2]; exact bLNt
      clear hw2
      have hbl2 := Bel.step hbl hb2
      with_reducible refine (HTL.out w2 hbl2).mono ?_
      rintro e w3 ⟨g, rfl, hct, hb3⟩
      have hbX3 := hX.below hb3 hX.lt
      have hX3 := hbX3.cell 0
      have hQ3 := (hQ.below hb2 hQ.lt).below hb3 (hQ.below hb2 hQ.lt).lt
      have hB3 := (hBd.below hb2 hBd.lt).below hb3 (hBd.below hb2 hBd.lt).lt
      have z1 := hQ3.lt
      have z2 := hB3.lt
      have y1 := hQ3.cell 0
      have y2 := hB3.cell 0
      simp only [List.getElem?_toArray, List.getElem?_cons_zero] at hX3 y1 y2
      have hbl3 := Bel.step hbl2 hb3
      have HC3 := Lib.hid (HCF.out w3 g m wr.heap.size hbl3 hct y2 hX3)
      clear hX hQ hBd hcc hb2 hb3 hct
      go_wp2_with fail
      with_reducible refine HC3.out.mono ?_
      rintro e w5 ⟨rfl, hb5⟩
      have hQ5 := hQ3.below hb5 hQ3.lt
      have hB5 := hB3.below hb5 hB3.lt
      have hbl5 := Bel.step hbl3 hb5
      clear hQ3 hB3 hb5 hbX3 hX3 y1 y2
      go_wp2_with fail
      go_roundw
      case rel => exact ⟨hbl5, hQ5, hB5, i + 1, by omega, by go_num⟩
      case measure => simp [intOf]; omega
    · obtain ⟨j, rfl⟩ : ∃ j, i = j + 1 := ⟨i - 1, by omega⟩
      obtain ⟨b', o', A', m', c', l', e, hl', hc', hr', q1', q2'⟩ := HT.out.at_ (show j < L by omega)
      cases e
      have hlo' := HP.out.lvl l' (List.mem_of_getElem? hl')
      obtain rfl : m' = m := by rw [← hr'.1]; exact hlo'.len
      have hne := HP.out.nest j l' l hl' HLL.out
      have HNS := Lib.hid (show ∀ V, Below w.heap.size w V → Calls Tryz.prog 42 #[.slice A' m' c', .slice A m' c] V fun e w' => e = .returned (.bool true) ∧ Below V.heap.size V w' from fun V hV => nested_ok A' A m' c' c l' l V (hr'.below hV) (HR.out.below hV) hlo' HLO.out hne (by omega))
      have hcc' := Below.cellOf hbl (Nat.le_refl _) hc'
      have i3 : ((j : Int) + 1) - 1 = (j : Int) := by omega
      have i4 : (0 : Int) ≤ (j : Int) := by omega
      have i5 : (j : Int) < (L : Int) := by omega
      clear hr' hlo' hl' hc' q1' hne hi0
      go_wp2_with fail
      (refine calls_named ?_; intro w2 hw2)
      have hb2 : Below wr.heap.size wr w2 := by rw [hw2]; exact bELt
      have hX : Blk w2 wr.heap.size 3 #[.int .i64 ((j : Int) + 1)] := by rw [hw2]; exact bLNt
      clear hw2
      have hbl2 := Bel.step hbl hb2
      with_reducible refine (HTL.out w2 hbl2).mono ?_
      rintro e w3 ⟨g, rfl, hct, hb3⟩
      have hbX3 := hX.below hb3 hX.lt
      have hX3 := hbX3.cell 0
      have hQ3 := (hQ.below hb2 hQ.lt).below hb3 (hQ.below hb2 hQ.lt).lt
      have hB3 := (hBd.below hb2 hBd.lt).below hb3 (hBd.below hb2 hBd.lt).lt
      have y1 := hQ3.cell 0
      simp only [List.getElem?_toArray, List.getElem?_cons_zero] at hX3 y1
      have hbl3 := Bel.step hbl2 hb3
      have d1 := Below.cellOf hb3 (Nat.le_refl _) (Below.cellOf hb2 (Nat.le_refl _) hcc)
      have d2 := Below.cellOf hb3 (Nat.le_refl _) (Below.cellOf hb2 (Nat.le_refl _) hcc')
      clear hX hQ hBd hcc hb2 hb3 hcc'
      go_wp2_with fail
      with_reducible refine (HNS.out w3 hbl3).mono ?_
      rintro e w4 ⟨rfl, hb4⟩
      have hX4 := (hbX3.below hb4 hbX3.lt).cell 0
      have hQ4 := hQ3.below hb4 hQ3.lt
      have hB4 := hB3.below hb4 hB3.lt
      have y2 := hB4.cell 0
      simp only [List.getElem?_toArray, List.getElem?_cons_zero] at hX4 y2
      have hbl4 := Bel.step hbl3 hb4
      have HC4 := Lib.hid (HCF.out w4 g m' wr.heap.size hbl4 (hct.below hb4) y2 hX4)
      clear d1 d2 hX3 y1 hbX3 hQ3 hB3 hb4 hct
      go_wp2_with fail
      with_reducible refine HC4.out.mono ?_
      rintro e w5 ⟨rfl, hb5⟩
      have hQ5 := hQ4.below hb5 hQ4.lt
      have hB5 := hB4.below hb5 hB4.lt
      have hbl5 := Bel.step hbl4 hb5
      clear hQ4 hB4 hb5 hX4 y2
      go_wp2_with fail
      go_roundw
      case rel => exact ⟨hbl5, hQ5, hB5, j + 1 + 1, by omega, by go_num⟩
      case measure => simp [intOf]; omega
  · obtain rfl : L = i := by omega
    go_wp2_with fail
    go_ret
    exact ⟨rfl, hbl⟩
end Go.Proofs.YtpffhoefmcpniaaGreatDoor

namespace Go.Proofs.YtpffhoefmcpniaaGreatDoor
open Go.RowKit

attribute [local go_sem ↓] Go.wp_at_zero Go.wp_at_succ

def ringN : NetD := ⟨[(0, 0, 1), (10, 0, 2), (5, 8, 0)], [(0, 1, 10), (1, 2, 20), (2, 0, 30), (1, 0, 40)], [⟨1, 1, [2]⟩, ⟨2, 1, [0, 1152921504606846976]⟩, ⟨1, 2, [1, 5]⟩]⟩
theorem ringN_ok : NetOk ringN := by
 refine ⟨by decide, by decide, by decide, ?_, ?_, ?_, ?_⟩
 · intro t ht
   simp only [ringN, List.mem_cons, List.not_mem_nil, or_false] at ht
   rcases ht with rfl | rfl | rfl <;> exact ⟨by decide, by decide, by decide, by decide, by decide, by decide⟩
 · intro t ht
   simp only [ringN, List.mem_cons, List.not_mem_nil, or_false] at ht
   rcases ht with rfl | rfl | rfl <;> exact ⟨by decide, by decide, by decide, by decide⟩
 · intro t ht
   simp only [ringN, List.mem_cons, List.not_mem_nil, or_false] at ht
   rcases ht with rfl | rfl | rfl | rfl <;> exact ⟨by decide, by decide, by decide, by decide, by decide⟩
 · intro i v t hv ht
   have hi : i < 3 := (List.getElem?_eq_some_iff.1 hv).1
   rcases (by omega : i = 0 ∨ i = 1 ∨ i = 2) with rfl | rfl | rfl
   all_goals
    simp only [ringN, List.getElem?_cons_zero, List.getElem?_cons_succ, Option.some.injEq] at hv
    subst hv
    revert ht
    simp only [ringN, show (1 : Int).toNat = 1 from rfl, show (2 : Int).toNat = 2 from rfl, show (0 : Int).toNat = 0 from rfl, List.getElem?_cons_zero, List.getElem?_cons_succ, Option.some.injEq]
    rintro rfl
    exact ⟨by decide, by decide⟩
theorem RdI.lit {w : World} {g : Nat} {t : TypeId} (l : List Int) (h : Blk w g t (icells l).toArray) : RdI w (some ⟨g, 0, none⟩) l.length l := by
 refine ⟨rfl, fun i x hx => ⟨g, 0, rfl, ?_⟩⟩
 rw [h.cell]
 simp [icells, hx]
theorem Rd3.lit {w : World} {g : Nat} {t : TypeId} (l : List Tri) (h : Blk w g t (tcells l).toArray) : Rd3 w (some ⟨g, 0, none⟩) l.length l := by
 refine Rds.rd3 ⟨tcells_len l, fun i x hx => ⟨g, 0, rfl, ?_⟩⟩
 rw [h.cell]
 simpa using hx
theorem ring_fact {w : World} {g1 g2 g3 g4 g5 g6 : Nat} {t a b c : TypeId} (h1 : Blk w g1 t (icells [2]).toArray) (h2 : Blk w g2 t (icells [0, 1152921504606846976]).toArray) (h3 : Blk w g3 t (icells [1, 5]).toArray)
 (h4 : Blk w g4 a (tcells ringN.vs).toArray) (h5 : Blk w g5 b (tcells ringN.ar).toArray)
 (h6 : Blk w g6 c #[.int .i64 1, .int .i64 1, .slice (some ⟨g1, 0, none⟩) 1 1, .int .i64 2, .int .i64 1, .slice (some ⟨g2, 0, none⟩) 2 2, .int .i64 1, .int .i64 2, .slice (some ⟨g3, 0, none⟩) 2 2]) : RdNet w (some ⟨g4, 0, none⟩) (some ⟨g5, 0, none⟩) (some ⟨g6, 0, none⟩) 3 4 3 ringN := by
 refine ⟨Rd3.lit _ h4, Rd3.lit _ h5, rfl, fun i x hx => ?_⟩
 have hi : i < 3 := (List.getElem?_eq_some_iff.1 hx).1
 rcases (by omega : i = 0 ∨ i = 1 ∨ i = 2) with rfl | rfl | rfl
 · simp only [ringN, List.getElem?_cons_zero, Option.some.injEq] at hx
   subst hx
   exact ⟨g6, 0, rfl, by rw [h6.cell]; rfl, by rw [h6.cell]; rfl, some ⟨g1, 0, none⟩, 1, 1, by rw [h6.cell]; rfl, RdI.lit _ h1, by omega⟩
 · simp only [ringN, List.getElem?_cons_zero, List.getElem?_cons_succ, Option.some.injEq] at hx
   subst hx
   exact ⟨g6, 0, rfl, by rw [h6.cell]; rfl, by rw [h6.cell]; rfl, some ⟨g2, 0, none⟩, 2, 2, by rw [h6.cell]; rfl, RdI.lit _ h2, by omega⟩
 · simp only [ringN, List.getElem?_cons_zero, List.getElem?_cons_succ, Option.some.injEq] at hx
   subst hx
   exact ⟨g6, 0, rfl, by rw [h6.cell]; rfl, by rw [h6.cell]; rfl, some ⟨g3, 0, none⟩, 2, 2, by rw [h6.cell]; rfl, RdI.lit _ h3, by omega⟩
theorem bodyPost_named {P : Program} {f : Func} {Q : Ending → World → Prop} {x : Exit} {a : Act} {w : World} (h : ∀ W, W = w → bodyPost P f Q x a W) : bodyPost P f Q x a w := h w rfl
end Go.Proofs.YtpffhoefmcpniaaGreatDoor

namespace Go.Proofs.YtpffhoefmcpniaaGreatDoor
open Go.RowKit

attribute [local go_sem ↓] Go.wp_at_zero Go.wp_at_succ

set_option maxHeartbeats 2000000 in
theorem ring_any (w : World) : Calls Tryz.prog 27 #[] w fun e w' => ∃ A B C, e = .returned (.agg #[.slice A 3 3, .slice B 4 4, .slice C 3 3]) ∧ RdNet w' A B C 3 4 3 ringN ∧ Below w.heap.size w w' := by
 go_enter Tryz.func27, Tryz.ntmps27
 go_wp2_with fail
 (refine bodyPost_named ?_; intro W hW)
 have hB : Blk W w.heap.size 26 #[.slice (some ⟨w.heap.size + 1 + 1 + 1 + 1 + 1 + 1 + 1, 0, none⟩) 3 3, .slice (some ⟨w.heap.size + 1 + 1 + 1 + 1 + 1 + 1 + 1 + 1, 0, none⟩) 4 4, .slice (some ⟨w.heap.size + 1 + 1 + 1 + 1 + 1 + 1 + 1 + 1 + 1, 0, none⟩) 3 3] := by
  rw [hW]
  refine Blk.alloc ?_ _
  refine Blk.alloc ?_ _
  refine Blk.alloc ?_ _
  refine Blk.alloc ?_ _
  refine Blk.alloc ?_ _
  refine Blk.alloc ?_ _
  refine Blk.alloc ?_ _
  refine Blk.alloc ?_ _
  refine Blk.alloc ?_ _
  refine Blk.new' _ _ _ ?_
  first | with_unfolding_all rfl | (simp; done)
 have c0 := hB.cell 0
 have c1 := hB.cell 1
 have c2 := hB.cell 2
 simp only [List.getElem?_toArray, List.getElem?_cons_zero, List.getElem?_cons_succ] at c0 c1 c2
 refine bodyPost_ret (v := .agg #[.slice (some ⟨w.heap.size + 1 + 1 + 1 + 1 + 1 + 1 + 1, 0, none⟩) 3 3, .slice (some ⟨w.heap.size + 1 + 1 + 1 + 1 + 1 + 1 + 1 + 1, 0, none⟩) 4 4, .slice (some ⟨w.heap.size + 1 + 1 + 1 + 1 + 1 + 1 + 1 + 1 + 1, 0, none⟩) 3 3]) (by simp [results, Tryz.results27, go_sem, c0, c1, c2]) rfl ?_
 have b1 : Blk W (w.heap.size + 1) 2 #[.int .i64 2] := by
  rw [hW]
  refine Blk.alloc ?_ _
  refine Blk.alloc ?_ _
  refine Blk.alloc ?_ _
  refine Blk.alloc ?_ _
  refine Blk.alloc ?_ _
  refine Blk.alloc ?_ _
  refine Blk.alloc ?_ _
  refine Blk.alloc ?_ _
  refine Blk.new' _ _ _ ?_
  first | with_unfolding_all rfl | (simp; done)
 have b2 : Blk W (w.heap.size + 1 + 1 + 1) 2 #[.int .i64 0, .int .i64 1152921504606846976] := by
  rw [hW]
  refine Blk.alloc ?_ _
  refine Blk.alloc ?_ _
  refine Blk.alloc ?_ _
  refine Blk.alloc ?_ _
  refine Blk.alloc ?_ _
  refine Blk.alloc ?_ _
  refine Blk.new' _ _ _ ?_
  first | with_unfolding_all rfl | (simp; done)
 have b3 : Blk W (w.heap.size + 1 + 1 + 1 + 1 + 1) 2 #[.int .i64 1, .int .i64 5] := by
  rw [hW]
  refine Blk.alloc ?_ _
  refine Blk.alloc ?_ _
  refine Blk.alloc ?_ _
  refine Blk.alloc ?_ _
  refine Blk.new' _ _ _ ?_
  first | with_unfolding_all rfl | (simp; done)
 have b4 : Blk W (w.heap.size + 1 + 1 + 1 + 1 + 1 + 1 + 1) 64 #[.int .i64 0, .int .i64 0, .int .i64 1, .int .i64 10, .int .i64 0, .int .i64 2, .int .i64 5, .int .i64 8, .int .i64 0] := by
  rw [hW]
  refine Blk.alloc ?_ _
  refine Blk.alloc ?_ _
  refine Blk.new' _ _ _ ?_
  first | with_unfolding_all rfl | (simp; done)
 have b5 : Blk W (w.heap.size + 1 + 1 + 1 + 1 + 1 + 1 + 1 + 1) 115 #[.int .i64 0, .int .i64 1, .int .i64 10, .int .i64 1, .int .i64 2, .int .i64 20, .int .i64 2, .int .i64 0, .int .i64 30, .int .i64 1, .int .i64 0, .int .i64 40] := by
  rw [hW]
  refine Blk.alloc ?_ _
  refine Blk.new' _ _ _ ?_
  first | with_unfolding_all rfl | (simp; done)
 have b6 : Blk W (w.heap.size + 1 + 1 + 1 + 1 + 1 + 1 + 1 + 1 + 1) 61 #[.int .i64 1, .int .i64 1, .slice (some ⟨w.heap.size + 1, 0, none⟩) 1 1, .int .i64 2, .int .i64 1, .slice (some ⟨w.heap.size + 1 + 1 + 1, 0, none⟩) 2 2, .int .i64 1, .int .i64 2, .slice (some ⟨w.heap.size + 1 + 1 + 1 + 1 + 1, 0, none⟩) 2 2] := by
  rw [hW]
  refine Blk.new' _ _ _ ?_
  first | with_unfolding_all rfl | (simp; done)
 have hbl : Below w.heap.size w W := by rw [hW]; exact bELt
 exact ⟨_, _, _, rfl, ring_fact b1 b2 b3 b4 b5 b6, hbl⟩
end Go.Proofs.YtpffhoefmcpniaaGreatDoor
