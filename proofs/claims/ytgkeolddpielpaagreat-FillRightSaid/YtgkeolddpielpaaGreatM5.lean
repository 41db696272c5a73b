/- Parts of the proof: Pt, Pa, Pc, Pd. -/
import Derived.Test.YtgkeolddpielpaaGreatM4
import Derived.Lib.SliceRun
namespace Go.Proofs.YtgkeolddpielpaaGreat
open Go.RowKit

theorem snoc_ind {P : List Int → Prop} (h0 : P []) (hs : ∀ l x, P l → P (l ++ [x])) (l : List Int) : P l := by
 have h : ∀ l : List Int, P l.reverse := by
  intro l
  induction l with
  | nil => exact h0
  | cons x l ih => rw [List.reverse_cons]; exact hs _ _ ih
 have := h l.reverse
 rwa [List.reverse_reverse] at this
def mostN (l : List Int) : Int := l.foldl (fun n x => max n (x + 1)) 0
theorem mostN_app (l : List Int) (x : Int) : mostN (l ++ [x]) = max (mostN l) (x + 1) := by simp [mostN]
theorem mostN_nonneg : ∀ l : List Int, 0 ≤ mostN l := by
 refine snoc_ind (by simp [mostN]) (fun l x ih => by rw [mostN_app]; omega)
theorem lt_mostN {l : List Int} {x : Int} : x ∈ l → x < mostN l := by
 revert x
 refine snoc_ind (P := fun l => ∀ {x : Int}, x ∈ l → x < mostN l) (fun h => by cases h) (fun l y ih => ?_) l
 · intro x h
   rw [mostN_app]
   rcases List.mem_append.1 h with h | h
   · have := ih h; omega
   · rw [List.mem_singleton.1 h]; omega
theorem mostN_mem {l : List Int} : 0 < mostN l → ∃ x ∈ l, mostN l = x + 1 := by
 refine snoc_ind (P := fun l => 0 < mostN l → ∃ x ∈ l, mostN l = x + 1) (fun h => by simp [mostN] at h) (fun l y ih => ?_) l
 · intro h
   rw [mostN_app] at h ⊢
   by_cases h1 : mostN l ≤ y + 1
   · exact ⟨y, by simp, by omega⟩
   · have h0 := mostN_nonneg l
     obtain ⟨x, hx, e⟩ := ih (by omega)
     exact ⟨x, List.mem_append_left _ hx, by omega⟩
theorem mostN_le {l : List Int} {n : Int} (h : ∀ x ∈ l, x < n) (hn : 0 ≤ n) : mostN l ≤ n := by
 by_cases h0 : 0 < mostN l
 · obtain ⟨x, hx, e⟩ := mostN_mem h0
   have := h x hx
   omega
 · omega
structure LvlOk (n : Nat) (l : List Int) : Prop where
 len : l.length = n
 lo : ∀ x ∈ l, 0 ≤ x
 hi : ∀ x ∈ l, x < n
 all : ∀ c : Nat, (c : Int) < mostN l → (c : Int) ∈ l
def NestOk (p l : List Int) : Prop := ∀ (a b : Nat) (x y u v : Int), p[a]? = some x → p[b]? = some y → l[a]? = some u → l[b]? = some v → x ≤ y → u ≤ v
structure PartOk (n : Nat) (ls : List (List Int)) : Prop where
 l1 : 1 ≤ ls.length
 l6 : ls.length ≤ 6
 lvl : ∀ l ∈ ls, LvlOk n l
 nest : ∀ (i : Nat) p l, ls[i]? = some p → ls[i + 1]? = some l → NestOk p l
noncomputable def lvlCode (n : Nat) (p : Option (List Int)) (l : List Int) : Int := by
 classical exact if l.length ≠ n then 1 else if LvlOk n l ∧ ∀ q, p = some q → NestOk q l then 0 else 10
end Go.Proofs.YtgkeolddpielpaaGreat

namespace Go.Proofs.YtgkeolddpielpaaGreat
open Go.RowKit

attribute [local go_sem ↓] Go.wp_at_zero Go.wp_at_succ

theorem numbers_ok (Q : Option Addr) (L cq i : Nat) (ls : List (List Int)) (l : List Int) (w : World) (h : RdT w Q L ls) (hl : ls[i]? = some l) (hL : L ≤ 1000000) :
 Calls Tryz.prog 71 #[.agg #[.slice Q L cq], .int .i64 ((i : Int) + 1)] w fun e w' => ∃ A n c, e = .returned (.slice A n c) ∧ RdI w A n l ∧ n ≤ c ∧ c ≤ 9223372036854775807 ∧ Below w.heap.size w w' := by
 have hi : i < L := by rw [← h.1]; exact (List.getElem?_eq_some_iff.1 hl).1
 obtain ⟨b, o, A, n, c, l', rfl, hl', hc, hr, q1, q2⟩ := h.at_ hi
 rw [hl] at hl'
 cases hl'
 have HR := Lib.hid hr
 have i1 : (0 : Int) ≤ (i : Int) := by omega
 have i2 : (i : Int) < (L : Int) := by omega
 have i3 : ¬ ((i : Int) + 1 < 1) := by omega
 have i4 : ¬ ((i : Int) + 1 > (L : Int)) := by omega
 have i5 : (i : Int) + 1 - 1 = (i : Int) := by omega
 have hca := fun ob => Below.cellOf (show Below w.heap.size w (w.alloc ob) from bELt) (Nat.le_refl _) hc
 clear h hl hr hc
 go_enter Tryz.func71, Tryz.ntmps71
 go_wp2
 go_ret
 exact ⟨_, _, _, rfl, HR.out, q1, q2, bELt⟩
theorem row_ok (Q : Option Addr) (L cq i : Nat) (ls : List (List Int)) (l : List Int) (w : World) (h : RdT w Q L ls) (hl : ls[i]? = some l) (hL : L ≤ 1000000) :
 Calls Tryz.prog 115 #[.agg #[.slice Q L cq], .int .i64 ((i : Int) + 1)] w fun e w' => ∃ A n c, e = .returned (.slice A n c) ∧ RdI w A n l ∧ n ≤ c ∧ c ≤ 9223372036854775807 ∧ Below w.heap.size w w' := by
 have hi : i < L := by rw [← h.1]; exact (List.getElem?_eq_some_iff.1 hl).1
 obtain ⟨b, o, A, n, c, l', rfl, hl', hc, hr, q1, q2⟩ := h.at_ hi
 rw [hl] at hl'
 cases hl'
 have HR := Lib.hid hr
 have i1 : (0 : Int) ≤ (i : Int) := by omega
 have i2 : (i : Int) < (L : Int) := by omega
 have i3 : ¬ ((i : Int) + 1 < 1) := by omega
 have i4 : ¬ ((i : Int) + 1 > (L : Int)) := by omega
 have i5 : (i : Int) + 1 - 1 = (i : Int) := by omega
 have hca := fun ob => Below.cellOf (show Below w.heap.size w (w.alloc ob) from bELt) (Nat.le_refl _) hc
 clear h hl hr hc
 go_enter Tryz.func115, Tryz.ntmps115
 go_wp2
 go_ret
 exact ⟨_, _, _, rfl, HR.out, q1, q2, bELt⟩
theorem mostN_next {l : List Int} {k : Nat} {x : Int} (h : l[k]? = some x) : mostN (l.take (k + 1)) = max (mostN (l.take k)) (x + 1) := by
 rw [List.take_succ_eq_append_getElem (List.getElem?_eq_some_iff.1 h).1, (List.getElem?_eq_some_iff.1 h).2, mostN_app]
set_option maxHeartbeats 1000000 in
theorem count_ok (Q : Option Addr) (L cq i : Nat) (ls : List (List Int)) (l : List Int) (w : World) (h : RdT w Q L ls) (hl : ls[i]? = some l) (hL : L ≤ 1000000) (hb : ∀ x ∈ l, 0 ≤ x ∧ x ≤ 1000000) :
 Calls Tryz.prog 98 #[.agg #[.slice Q L cq], .int .i64 ((i : Int) + 1)] w fun e w' => e = .returned (.int .i64 (mostN l)) ∧ Below w.heap.size w w' := by
 have HN := Lib.hid (show ∀ V, Below w.heap.size w V → Calls Tryz.prog 71 #[.agg #[.slice Q L cq], .int .i64 ((i : Int) + 1)] V fun e w' => ∃ A n c, e = .returned (.slice A n c) ∧ RdI V A n l ∧ n ≤ c ∧ c ≤ 9223372036854775807 ∧ Below V.heap.size V w' from fun V hV => numbers_ok Q L cq i ls l V (h.below hV) hl hL)
 have HB := Lib.hid hb
 clear h hl hb
 go_enter Tryz.func98, Tryz.ntmps98
 go_wp2_with fail
 (refine calls_named ?_; intro w1 hw1)
 have hb1 : Below w.heap.size w w1 := by rw [hw1]; exact bELt
 clear hw1
 with_reducible refine (HN.out w1 hb1).mono ?_
 rintro e w2 ⟨A, n, c, rfl, hr, q1, q2, hb2⟩
 have hr2 := hr.below hb2
 have HLEN := Lib.hid hr.1
 have hbw2 := Bel.step hb1 hb2
 clear hr
 go_wp2_with fail
 go_loop [5, 12] (fun m q => ∃ k : Nat, k ≤ n ∧ q = .int .i64 k ∧ m = .int .i64 (mostN (l.take k))) (fun _ q => n - (intOf q).toNat)
 case atStart => exact ⟨0, Nat.zero_le _, rfl, rfl⟩
 case round =>
  obtain ⟨k, hk, rfl, rfl⟩ := hrel
  by_cases hlt : k < n
  · obtain ⟨b, o, x, rfl, hx, hc⟩ := hr2.at_ hlt
    have hxb := HB.out x (List.mem_of_getElem? hx)
    have HNX := Lib.hid (mostN_next hx)
    have i1 : (0 : Int) ≤ (k : Int) := by omega
    have i2 : (k : Int) < (n : Int) := by omega
    clear hx
    generalize mostN (l.take k) = m at *
    by_cases hge : x ≥ m
    · go_wp2_with fail
      go_round
      case rel => exact ⟨k + 1, by omega, by go_num, by rw [HNX.out, show max m (x + 1) = x + 1 by omega]⟩
      case measure => simp [intOf]; omega
    · go_wp2_with fail
      go_round
      case rel => exact ⟨k + 1, by omega, by go_num, by rw [HNX.out, show max m (x + 1) = m by omega]⟩
      case measure => simp [intOf]; omega
  · obtain rfl : n = k := by omega
    have HE := Lib.hid (show mostN (l.take n) = mostN l by rw [List.take_of_length_le (by rw [HLEN.out]; exact Nat.le_refl _)])
    go_wp2
    go_ret
    exact ⟨ret_int HE.out, hbw2⟩
end Go.Proofs.YtgkeolddpielpaaGreat

namespace Go.Proofs.YtgkeolddpielpaaGreat
open Go.RowKit

attribute [local go_sem ↓] Go.wp_at_zero Go.wp_at_succ

def cntI (l : List Int) (n : Nat) : List Int := (List.range n).map (fun c : Nat => ((l.countP (fun x => x == (c : Int)) : Nat) : Int))
theorem cntI_len (l : List Int) (n : Nat) : (cntI l n).length = n := by simp [cntI]
theorem cntI_get {l : List Int} {n v : Nat} (h : v < n) : (cntI l n)[v]? = some ((l.countP (fun x => x == (v : Int)) : Nat) : Int) := by
 unfold cntI
 rw [List.getElem?_map, List.getElem?_range h]
 rfl
theorem cntI_zero (n : Nat) : ints (cntI [] n) = zeros (.int .i64 0) n := by
 rw [zeros_int]
 congr 1
 apply List.ext_getElem?
 intro i
 rcases Nat.lt_or_ge i n with h | h
 · rw [cntI_get h]; simp [h]
 · rw [List.getElem?_eq_none (by rw [cntI_len]; exact h), List.getElem?_eq_none (by simpa using h)]
theorem cntI_next {l : List Int} {n v k : Nat} (ha : l[k]? = some (v : Int)) (h : v < n) :
 (cntI (l.take k) n).set v ((((l.take k).countP (fun x => x == (v : Int)) : Nat) : Int) + 1) = cntI (l.take (k + 1)) n := by
 apply List.ext_getElem?
 intro i
 rw [List.take_succ_eq_append_getElem (List.getElem?_eq_some_iff.1 ha).1, (List.getElem?_eq_some_iff.1 ha).2]
 rcases Nat.lt_or_ge i n with hi | hi
 · rw [cntI_get hi, List.countP_append]
   by_cases e : v = i
   · subst e
     rw [List.getElem?_set_self (by rw [cntI_len]; exact h)]
     simp
   · rw [List.getElem?_set_ne e, cntI_get hi]
     have : ((v : Int) == (i : Int)) = false := by simp; omega
     simp [this]
 · rw [List.getElem?_eq_none (by rw [List.length_set, cntI_len]; exact hi), List.getElem?_eq_none (by rw [cntI_len]; exact hi)]
theorem cntI_bd (l : List Int) (k : Nat) (v : Int) : (l.take k).countP (fun x => x == v) ≤ k := Nat.le_trans List.countP_le_length (List.length_take_le _ _)
theorem cntI_take (l : List Int) {n m : Nat} (h : m ≤ n) : (cntI l n).take m = cntI l m := by
 apply List.ext_getElem?
 intro i
 rw [List.getElem?_take]
 split
 · rename_i hi
   rw [cntI_get (by omega), cntI_get hi]
 · rw [List.getElem?_eq_none (by rw [cntI_len]; omega)]
theorem cntI_pos {n : Nat} {l : List Int} (h : LvlOk n l) : (0 : Int) ∉ cntI l (mostN l).toNat := by
 intro hm
 unfold cntI at hm
 rw [List.mem_map] at hm
 obtain ⟨c, hc, e⟩ := hm
 rw [List.mem_range] at hc
 have hc2 := h.all c (by omega)
 have := List.countP_pos_iff (p := fun x => x == (c : Int)).2 ⟨(c : Int), hc2, by simp⟩
 omega
set_option maxHeartbeats 1000000 in
theorem tally_ok (A : Option Addr) (n c : Nat) (l : List Int) (w : World) (h : RdI w A n l) (hl : LvlOk n l) (hn : n ≤ 1000000) :
 Calls Tryz.prog 94 #[.slice A n c] w fun e w' => ∃ g, e = .returned (.tuple #[.slice (some ⟨g, 0, none⟩) (mostN l).toNat n, .bool true]) ∧ RdI w' (some ⟨g, 0, none⟩) (mostN l).toNat (cntI l (mostN l).toNat) ∧ Below w.heap.size w w' := by
 have HR := Lib.hid h
 have HL := Lib.hid h.1
 have HO := Lib.hid hl
 have hmk := run_makeI n (by omega)
 clear h hl
 go_enter Tryz.func94, Tryz.ntmps94
 go_wp2_with fail
 (refine wp_named ?_; intro w1 hw1)
 have hb1 : Below w.heap.size w w1 := by rw [hw1]; exact bELt
 have hB1 : Blk w1 w.heap.size 3 (ints (cntI (l.take 0) n)) := by rw [hw1, List.take_zero, cntI_zero]; exact Blk.new _ _ _
 clear hw1 hmk
 go_loopw [6, 15] (fun m q W => Below w.heap.size w W ∧ ∃ k : Nat, k ≤ n ∧ q = .int .i64 k ∧ m = .int .i64 (mostN (l.take k) - 1) ∧ Blk W w.heap.size 3 (ints (cntI (l.take k) n))) (fun _ q _ => n - (intOf q).toNat)
 case atStart => exact ⟨hb1, 0, Nat.zero_le _, rfl, rfl, hB1⟩
 case round =>
  clear hb1 hB1
  obtain ⟨hbl, k, hk, rfl, rfl, hB⟩ := hrel
  by_cases hlt : k < n
  · obtain ⟨b, o, x, rfl, hx, hc⟩ := HR.out.at_ hlt
    have x0 := HO.out.lo x (List.mem_of_getElem? hx)
    have x1 := HO.out.hi x (List.mem_of_getElem? hx)
    obtain ⟨v, rfl⟩ : ∃ v : Nat, x = v := ⟨x.toNat, by omega⟩
    have hv : v < n := by omega
    have hc2 := Below.cellOf hbl (Nat.le_refl _) hc
    have HNX := Lib.hid (mostN_next hx)
    have c1 := hB.cellI (cntI_get (l := l.take k) hv)
    have c1f := hB.frozen v
    have d1 := cntI_bd l k (v : Int)
    have m0 := mostN_nonneg (l.take k)
    have m1 := mostN_le (l := l.take k) (n := (n : Int)) (fun x hx => HO.out.hi x (List.mem_of_mem_take hx)) (by omega)
    have HBN := Lib.hid (hB.setI (cntI_next hx hv))
    have i1 : (0 : Int) ≤ (k : Int) := by omega
    have i2 : (k : Int) < (n : Int) := by omega
    have i3 : (0 : Int) ≤ (v : Int) := by omega
    have i4 : (v : Int) < (n : Int) := by omega
    clear hx hc hB
    generalize (l.take k).countP (fun x => x == (v : Int)) = p at *
    generalize mostN (l.take k) = m at *
    have hbn : Below w.heap.size w (wr.setCell ⟨w.heap.size, v, none⟩ (.int .i64 ((p : Int) + 1))) := hbl.setCell (Nat.le_refl _) _
    have HM := Lib.hid (show (if m - 1 < (v : Int) then (v : Int) else m - 1) = max m ((v : Int) + 1) - 1 by split <;> omega)
    go_wp2_with fail
    go_roundw
    case rel => exact ⟨hbn, k + 1, by omega, by go_num, by rw [HNX.out, HM.out], HBN.out⟩
    case measure => simp [intOf]; omega
  · obtain rfl : n = k := by omega
    rw [List.take_of_length_le (by rw [HL.out]; exact Nat.le_refl _)] at hB
    have HE := Lib.hid (show mostN (l.take n) = mostN l by rw [List.take_of_length_le (by rw [HL.out]; exact Nat.le_refl _)])
    have m0 := mostN_nonneg l
    have m1 := mostN_le (l := l) (n := (n : Int)) (fun x hx => HO.out.hi x hx) (by omega)
    have HP := Lib.hid (cntI_pos HO.out)
    have hrd := (hB.rdI (n := n) (cntI_len l n)).take (m := (mostN l).toNat) (by omega)
    rw [cntI_take l (by omega)] at hrd
    rw [HE.out]
    obtain ⟨M, hM⟩ : ∃ M : Nat, mostN l = M := ⟨(mostN l).toNat, by omega⟩
    rw [hM] at m0 m1 ⊢
    have HMM := Lib.hid hM
    rw [hM, Int.toNat_natCast] at hrd HP
    have HCT := Lib.hid (show Calls Tryz.prog 135 #[.slice (some ⟨w.heap.size, 0, none⟩) M n, .int .i64 0] wr fun e w' => e = .returned (.bool false) ∧ wr = w' from (contains_any _ M n _ 0 wr hrd (by omega)).mono (fun e w' h => ⟨by rw [h.1, decide_eq_false HP.out], h.2⟩))
    have HRD := Lib.hid hrd
    clear hM hrd hB
    have i1 : (M : Int) - 1 + 1 = (M : Int) := by omega
    go_wp2_with fail
    with_reducible refine HCT.out.mono ?_
    rintro e w' ⟨rfl, rfl⟩
    go_wp2_with fail
    go_ret2
    exact ⟨w.heap.size, by rw [HMM.out, Int.toNat_natCast]; rfl, by rw [HMM.out, Int.toNat_natCast]; exact HRD.out, hbl⟩

structure UpI (p l U : List Int) (k : Nat) : Prop where
 len : U.length = p.length
 put : ∀ (v c : Nat) (y : Int), v < k → p[v]? = some (c : Int) → l[v]? = some y → U[c]? = some y
 got : ∀ (c : Nat) (y : Int), U[c]? = some y → y = -1 ∨ ∃ v, v < k ∧ p[v]? = some (c : Int) ∧ l[v]? = some y
theorem UpI.start (p l : List Int) : UpI p l (List.replicate p.length (-1)) 0 :=
 ⟨by simp, fun v _ _ h => absurd h (Nat.not_lt_zero _), fun c y h => .inl (by
  have := List.mem_of_getElem? h
  exact (List.mem_replicate.1 this).2)⟩
theorem UpI.next {p l U : List Int} {k c : Nat} {y : Int} (h : UpI p l U k) (hn : NestOk p l) (hp : p[k]? = some (c : Int)) (hl : l[k]? = some y) (hc : c < p.length) : UpI p l (U.set c y) (k + 1) := by
 refine ⟨by rw [List.length_set]; exact h.len, fun v d z hv h1 h2 => ?_, fun d z hz => ?_⟩
 · by_cases e : c = d
   · subst e
     rw [List.getElem?_set_self (by rw [h.len]; exact hc)]
     have q1 := hn v k _ _ _ _ h1 hp h2 hl (Int.le_refl _)
     have q2 := hn k v _ _ _ _ hp h1 hl h2 (Int.le_refl _)
     congr 1
     omega
   · rw [List.getElem?_set_ne e]
     by_cases ev : v = k
     · subst ev
       rw [hp] at h1
       injection h1 with h1
       omega
     · exact h.put v d z (by omega) h1 h2
 · by_cases e : c = d
   · subst e
     rw [List.getElem?_set_self (by rw [h.len]; exact hc)] at hz
     cases hz
     exact .inr ⟨k, by omega, hp, hl⟩
   · rw [List.getElem?_set_ne e] at hz
     rcases h.got d z hz with h1 | ⟨v, h1, h2⟩
     · exact .inl h1
     · exact .inr ⟨v, by omega, h2⟩
theorem UpI.eq {p l U : List Int} {k c : Nat} {y z : Int} (h : UpI p l U k) (hn : NestOk p l) (hp : p[k]? = some (c : Int)) (hl : l[k]? = some y) (hz : U[c]? = some z) : z = -1 ∨ z = y := by
 rcases h.got c z hz with h1 | ⟨v, h1, h2, h3⟩
 · exact .inl h1
 · have q1 := hn v k _ _ _ _ h2 hp h3 hl (Int.le_refl _)
   have q2 := hn k v _ _ _ _ hp h2 hl h3 (Int.le_refl _)
   exact .inr (by omega)
theorem UpI.sorted {p l U : List Int} {n : Nat} (h : UpI p l U n) (hn : NestOk p l) (hp : LvlOk n p) (hl : l.length = n) : sortedB (U.take (mostN p).toNat) = true := by
 refine sortedB_of (fun j x y h1 h2 => ?_)
 rw [List.getElem?_take] at h1 h2
 split at h1
 · rename_i q1
   split at h2
   · rename_i q2
     obtain ⟨a, ha⟩ := List.getElem?_of_mem (hp.all j (by omega))
     obtain ⟨b, hb⟩ := List.getElem?_of_mem (hp.all (j + 1) (by omega))
     have la := (List.getElem?_eq_some_iff.1 ha).1
     have lb := (List.getElem?_eq_some_iff.1 hb).1
     rw [hp.len] at la lb
     have ea : l[a]? = some l[a] := List.getElem?_eq_getElem (by omega)
     have eb : l[b]? = some l[b] := List.getElem?_eq_getElem (by omega)
     have p1 := h.put a j _ la ha ea
     have p2 := h.put b (j + 1) _ lb hb eb
     rw [p1] at h1
     rw [p2] at h2
     cases h1
     cases h2
     exact hn a b _ _ _ _ ha hb ea eb (by omega)
   · cases h2
 · cases h1
theorem min1_next {n k : Nat} (h : k < n) : (List.replicate k (-1 : Int) ++ List.replicate (n - k) 0).set k (-1) = List.replicate (k + 1) (-1) ++ List.replicate (n - (k + 1)) 0 := by
 rw [List.set_append_right _ _ (by simp)]
 obtain ⟨m, hm⟩ : ∃ m, n - k = m + 1 := ⟨n - k - 1, by omega⟩
 rw [hm, show n - (k + 1) = m by omega, List.replicate_succ' (n := k)]
 simp [List.replicate_succ]
set_option maxHeartbeats 2000000 in
theorem nested_ok (A B : Option Addr) (n c d : Nat) (p l : List Int) (w : World) (h : RdI w A n p) (h2 : RdI w B n l) (hp : LvlOk n p) (hl : LvlOk n l) (hN : NestOk p l) (hn : n ≤ 1000000) :
 Calls Tryz.prog 95 #[.slice A n c, .slice B n d] w fun e w' => e = .returned (.bool true) ∧ Below w.heap.size w w' := by
 have HR := Lib.hid h
 have HR2 := Lib.hid h2
 have HL := Lib.hid h.1
 have HO := Lib.hid hp
 have HO2 := Lib.hid hl
 have HN := Lib.hid hN
 have hmk := run_makeI n (by omega)
 clear h h2 hl hp hN
 go_enter Tryz.func95, Tryz.ntmps95
 go_wp2_with fail
 (refine wp_named ?_; intro w1 hw1)
 have hb1 : Below w.heap.size w w1 := by rw [hw1]; exact bELt
 have hB1 : Blk w1 w.heap.size 3 (ints (List.replicate 0 (-1) ++ List.replicate (n - 0) 0)) := by rw [hw1]; simp only [List.replicate_zero, List.nil_append, Nat.sub_zero]; rw [← zeros_int]; exact Blk.new _ _ _
 clear hw1 hmk
 go_loopw [15] (fun q W => Below w.heap.size w W ∧ ∃ k : Nat, k ≤ n ∧ q = .int .i64 k ∧ Blk W w.heap.size 3 (ints (List.replicate k (-1) ++ List.replicate (n - k) 0))) (fun q _ => n - (intOf q).toNat)
 case atStart => exact ⟨hb1, 0, Nat.zero_le _, rfl, hB1⟩
 case round =>
  clear hb1 hB1
  obtain ⟨hbl, k, hk, rfl, hB⟩ := hrel
  by_cases hlt : k < n
  · obtain ⟨z, hz⟩ : ∃ z, (List.replicate k (-1 : Int) ++ List.replicate (n - k) 0)[k]? = some z := ⟨_, List.getElem?_eq_getElem (by simp; omega)⟩
    have c1 := hB.cellI hz
    have c1f := hB.frozen k
    have HB := Lib.hid (hB.setI (min1_next hlt))
    have hbn : Below w.heap.size w (wr.setCell ⟨w.heap.size, k, none⟩ (.int .i64 (-1))) := hbl.setCell (Nat.le_refl _) _
    have i1 : (0 : Int) ≤ (k : Int) := by omega
    have i2 : (k : Int) < (n : Int) := by omega
    clear hB hz hbl
    go_wp2_with fail
    go_roundw
    case rel => exact ⟨hbn, k + 1, by omega, by go_num, HB.out⟩
    case measure => simp [intOf]; omega
  · obtain rfl : n = k := by omega
    rw [Nat.sub_self, List.replicate_zero, List.append_nil] at hB
    have HU := Lib.hid (show UpI p l (List.replicate n (-1)) 0 from by have := UpI.start p l; rw [HL.out] at this; exact this)
    go_wp2_with fail
    go_loopw [7, 24] (fun m q W => Below w.heap.size w W ∧ ∃ (k : Nat) (U : List Int), k ≤ n ∧ q = .int .i64 k ∧ m = .int .i64 (mostN (p.take k) - 1) ∧ Blk W w.heap.size 3 (ints U) ∧ UpI p l U k) (fun _ q _ => n - (intOf q).toNat)
    case atStart => exact ⟨hbl, 0, _, Nat.zero_le _, rfl, rfl, hB, HU.out⟩
    case round =>
     clear hbl hB HU
     obtain ⟨hbl, k, U, hk, rfl, rfl, hB, hU⟩ := hrel
     have HU := Lib.hid hU
     by_cases hlt2 : k < n
     · obtain ⟨b, o, x, rfl, hx, hc⟩ := HR.out.at_ hlt2
       obtain ⟨b2, o2, y, rfl, hy, hcy⟩ := HR2.out.at_ hlt2
       have x0 := HO.out.lo x (List.mem_of_getElem? hx)
       have x1 := HO.out.hi x (List.mem_of_getElem? hx)
       have y0 := HO2.out.lo y (List.mem_of_getElem? hy)
       obtain ⟨v, rfl⟩ : ∃ v : Nat, x = v := ⟨x.toNat, by omega⟩
       have hv : v < n := by omega
       have hc2 := Below.cellOf hbl (Nat.le_refl _) hc
       have hcy2 := Below.cellOf hbl (Nat.le_refl _) hcy
       have HNX := Lib.hid (mostN_next hx)
       obtain ⟨z, hz⟩ : ∃ z, U[v]? = some z := ⟨_, List.getElem?_eq_getElem (by rw [hU.len, HL.out]; exact hv)⟩
       have hzz := hU.eq HN.out hx hy hz
       have c1 := hB.cellI hz
       have c1f := hB.frozen v
       have m0 := mostN_nonneg (p.take k)
       have m1 := mostN_le (l := p.take k) (n := (n : Int)) (fun x hx => HO.out.hi x (List.mem_of_mem_take hx)) (by omega)
       have HBN := Lib.hid (hB.setI (l' := U.set v y) rfl)
       have HUN := Lib.hid (hU.next HN.out hx hy (by rw [HL.out]; exact hv))
       have i1 : (0 : Int) ≤ (k : Int) := by omega
       have i2 : (k : Int) < (n : Int) := by omega
       have i3 : (0 : Int) ≤ (v : Int) := by omega
       have i4 : (v : Int) < (n : Int) := by omega
       have hbn : Below w.heap.size w (wr.setCell ⟨w.heap.size, v, none⟩ (.int .i64 y)) := hbl.setCell (Nat.le_refl _) _
       clear hx hy hc hcy hB hU hz HU hbl
       generalize mostN (p.take k) = m at *
       have HM := Lib.hid (show (if m - 1 < (v : Int) then (v : Int) else m - 1) = max m ((v : Int) + 1) - 1 by split <;> omega)
       by_cases hz0 : z ≥ 0
       · obtain rfl : z = y := by omega
         clear hzz
         go_wp2_with fail
         go_quiet (fail)
         go_wp2_with fail
         go_roundw
         case rel => exact ⟨below_drewN hbn _, k + 1, _, by omega, by go_num, by rw [HNX.out, HM.out], HBN.out.drewN _, HUN.out⟩
         case measure => simp [intOf]; omega
       · obtain rfl : z = -1 := by omega
         clear hzz hz0
         go_wp2_with fail
         go_quiet (fail)
         go_wp2_with fail
         go_roundw
         case rel => exact ⟨below_drewN hbn _, k + 1, _, by omega, by go_num, by rw [HNX.out, HM.out], HBN.out.drewN _, HUN.out⟩
         case measure => simp [intOf]; omega
     · obtain rfl : n = k := by omega
       have HE := Lib.hid (show mostN (p.take n) = mostN p by rw [List.take_of_length_le (by rw [HL.out]; exact Nat.le_refl _)])
       have m0 := mostN_nonneg p
       have m1 := mostN_le (l := p) (n := (n : Int)) (fun x hx => HO.out.hi x hx) (by omega)
       have HS := Lib.hid (hU.sorted HN.out HO.out HO2.out.len)
       have hrd := (hB.rdI (n := n) (by rw [hU.len]; exact HL.out)).take (m := (mostN p).toNat) (by omega)
       rw [HE.out]
       obtain ⟨M, hM⟩ : ∃ M : Nat, mostN p = M := ⟨(mostN p).toNat, by omega⟩
       rw [hM] at m0 m1 ⊢
       rw [hM, Int.toNat_natCast] at hrd HS
       have HCT := Lib.hid (show Calls Tryz.prog 136 #[.slice (some ⟨w.heap.size, 0, none⟩) M n] wr fun e w' => e = .returned (.bool true) ∧ ∃ k, w' = wr.drewN k from (isSorted_any _ M n _ wr hrd (by omega)).mono (fun e w' h => ⟨by rw [h.1, HS.out], h.2⟩))
       have i1 : (M : Int) - 1 + 1 = (M : Int) := by omega
       clear hM hrd hB hU HE HU
       go_wp2_with fail
       with_reducible refine HCT.out.mono ?_
       rintro e w' ⟨rfl, nq, hw'⟩
       have hbe : Below w.heap.size w w' := by rw [hw']; exact below_drewN hbl _
       clear hw'
       go_wp2_with fail
       go_ret
       exact ⟨rfl, hbe⟩

set_option maxHeartbeats 2000000 in
set_option maxRecDepth 20000 in
theorem partCheck_ok (Q : Option Addr) (n L cq : Nat) (ls : List (List Int)) (w : World) (h : RdT w Q L ls) (hP : PartOk n ls) (hn : n ≤ 4096) :
 Calls Tryz.prog 64 #[.int .i64 n, .agg #[.slice Q L cq], .slice none 0 0] w fun e w' => e = .returned .nilIface ∧ Below w.heap.size w w' := by
 have HT := Lib.hid h
 have HP := Lib.hid hP
 have l1 : 1 ≤ L := by rw [← h.1]; exact hP.l1
 have l6 : L ≤ 6 := by rw [← h.1]; exact hP.l6
 have HLEN := Lib.hid h.1
 clear h hP
 have j1 : ((L : Int) == 0) = false := by simp; omega
 have j2 : ¬ (n : Int) < 0 := by omega
 have j3 : ¬ (n : Int) > 4096 := by omega
 have j4 : ¬ (L : Int) > 6 := by omega
 have j5 : ¬ L = 0 := by omega
 go_enter Tryz.func64, Tryz.ntmps64
 go_wp2_with fail
 (refine wp_named ?_; intro w1 hw1)
 have hb1 : Below w.heap.size w w1 := by rw [hw1]; exact bELt
 have hQ : Blk w1 w.heap.size 79 #[.slice Q L cq] := by rw [hw1]; exact bLNt
 have hBd : Blk w1 (w.heap.size + 1) 36 #[.slice none 0 0] := by rw [hw1]; exact bLNt
 clear hw1
 go_loopw [45] (fun q W => Below w.heap.size w W ∧ Blk W w.heap.size 79 #[.slice Q L cq] ∧ Blk W (w.heap.size + 1) 36 #[.slice none 0 0] ∧ ∃ i : Nat, i ≤ L ∧ q = .int .i64 i) (fun q _ => L - (intOf q).toNat)
 case atStart => exact ⟨hb1, hQ, hBd, 0, Nat.zero_le _, rfl⟩
 case round =>
  clear hb1 hQ hBd
  obtain ⟨hbl, hQ, hBd, i, hi, rfl⟩ := hrel
  by_cases hlt : i < L
  · obtain ⟨b, o, A, m, c, l, rfl, hl, hc, hr, q1, q2⟩ := HT.out.at_ hlt
    have hlo := HP.out.lvl l (List.mem_of_getElem? hl)
    obtain rfl : m = n := by rw [← hr.1]; exact hlo.len
    have hcc := Below.cellOf hbl (Nat.le_refl _) hc
    have HTL := Lib.hid (show ∀ V, Below w.heap.size w V → Calls Tryz.prog 94 #[.slice A m c] V fun e w' => ∃ g, e = .returned (.tuple #[.slice (some ⟨g, 0, none⟩) (mostN l).toNat m, .bool true]) ∧ Below V.heap.size V w' from fun V hV => (tally_ok A m c l V (hr.below hV) hlo (by omega)).mono (fun e w' ⟨g, h1, _, h3⟩ => ⟨g, h1, h3⟩))
    have HR := Lib.hid hr
    have HLO := Lib.hid hlo
    have HLL := Lib.hid hl
    have i1 : (0 : Int) ≤ (i : Int) := by omega
    have i2 : (i : Int) < (L : Int) := by omega
    clear hr hlo hl hc q1
    by_cases hi0 : i = 0
    · have e0 : ¬ ((i : Int) > 0) := by omega
      have e00 : ¬ (0 < i) := by omega
      clear hi0
      go_wp2_with fail
      (refine calls_named ?_; intro w2 hw2)
      have hb2 : Below wr.heap.size wr w2 := by rw [hw2]; exact bELt
      have hX : Blk w2 wr.heap.size 3 #[.int .i64 (i : Int)] := by rw [hw2]; exact bLNt
      clear hw2
      have hbl2 := Bel.step hbl hb2
      with_reducible refine (HTL.out w2 hbl2).mono ?_
      rintro e w3 ⟨g, rfl, hb3⟩
      have hX3 := (hX.below hb3 hX.lt).cell 0
      have hQ3 := (hQ.below hb2 hQ.lt).below hb3 (hQ.below hb2 hQ.lt).lt
      have hB3 := (hBd.below hb2 hBd.lt).below hb3 (hBd.below hb2 hBd.lt).lt
      have z1 := hQ3.lt
      have z2 := hB3.lt
      have y1 := hQ3.cell 0
      have y2 := hB3.cell 0
      simp only [List.getElem?_toArray, List.getElem?_cons_zero] at hX3 y1 y2
      have hbl3 := Bel.step hbl2 hb3
      clear hX hQ hBd hcc hb2 hb3
      go_wp2_with fail
      go_roundw
      case rel => exact ⟨hbl3, hQ3, hB3, i + 1, by omega, by go_num⟩
      case measure => simp [intOf]; omega
    · obtain ⟨j, rfl⟩ : ∃ j, i = j + 1 := ⟨i - 1, by omega⟩
      obtain ⟨b', o', A', m', c', l', e, hl', hc', hr', q1', q2'⟩ := HT.out.at_ (show j < L by omega)
      cases e
      have hlo' := HP.out.lvl l' (List.mem_of_getElem? hl')
      obtain rfl : m' = m := by rw [← hr'.1]; exact hlo'.len
      have hne := HP.out.nest j l' l hl' HLL.out
      have HNS := Lib.hid (show ∀ V, Below w.heap.size w V → Calls Tryz.prog 95 #[.slice A' m' c', .slice A m' c] V fun e w' => e = .returned (.bool true) ∧ Below V.heap.size V w' from fun V hV => nested_ok A' A m' c' c l' l V (hr'.below hV) (HR.out.below hV) hlo' HLO.out hne (by omega))
      have hcc' := Below.cellOf hbl (Nat.le_refl _) hc'
      have i3 : ((j : Int) + 1) - 1 = (j : Int) := by omega
      have i4 : (0 : Int) ≤ (j : Int) := by omega
      have i5 : (j : Int) < (L : Int) := by omega
      clear hr' hlo' hl' hc' q1' hne hi0
      go_wp2_with fail
      (refine calls_named ?_; intro w2 hw2)
      have hb2 : Below wr.heap.size wr w2 := by rw [hw2]; exact bELt
      have hX : Blk w2 wr.heap.size 3 #[.int .i64 ((j : Int) + 1)] := by rw [hw2]; exact bLNt
      clear hw2
      have hbl2 := Bel.step hbl hb2
      with_reducible refine (HTL.out w2 hbl2).mono ?_
      rintro e w3 ⟨g, rfl, hb3⟩
      have hbX3 := hX.below hb3 hX.lt
      have hX3 := hbX3.cell 0
      have hQ3 := (hQ.below hb2 hQ.lt).below hb3 (hQ.below hb2 hQ.lt).lt
      have hB3 := (hBd.below hb2 hBd.lt).below hb3 (hBd.below hb2 hBd.lt).lt
      have y1 := hQ3.cell 0
      simp only [List.getElem?_toArray, List.getElem?_cons_zero] at hX3 y1
      have hbl3 := Bel.step hbl2 hb3
      have d1 := Below.cellOf hb3 (Nat.le_refl _) (Below.cellOf hb2 (Nat.le_refl _) hcc)
      have d2 := Below.cellOf hb3 (Nat.le_refl _) (Below.cellOf hb2 (Nat.le_refl _) hcc')
      clear hX hQ hBd hcc hb2 hb3 hcc'
      go_wp2_with fail
      with_reducible refine (HNS.out w3 hbl3).mono ?_
      rintro e w4 ⟨rfl, hb4⟩
      have hX4 := (hbX3.below hb4 hbX3.lt).cell 0
      have hQ4 := hQ3.below hb4 hQ3.lt
      have hB4 := hB3.below hb4 hB3.lt
      have y2 := hB4.cell 0
      simp only [List.getElem?_toArray, List.getElem?_cons_zero] at hX4 y2
      have hbl4 := Bel.step hbl3 hb4
      clear d1 d2 hX3 y1 hbX3 hQ3 hB3 hb4
      go_wp2_with fail
      go_roundw
      case rel => exact ⟨hbl4, hQ4, hB4, j + 1 + 1, by omega, by go_num⟩
      case measure => simp [intOf]; omega
  · obtain rfl : L = i := by omega
    go_wp2_with fail
    go_ret
    exact ⟨rfl, hbl⟩
end Go.Proofs.YtgkeolddpielpaaGreat

namespace Go.Proofs.YtgkeolddpielpaaGreat
open Go.RowKit

attribute [local go_sem ↓] Go.wp_at_zero Go.wp_at_succ

set_option maxHeartbeats 400000 in
theorem most_any (A : Option Addr) (n c : Nat) (l : List Int) (w : World) (h : RdI w A n l) (hn : n ≤ 1000000) (hb : ∀ x ∈ l, 0 ≤ x ∧ x ≤ 1000000) :
 Calls Tryz.prog 131 #[.slice A n c] w fun e w' => e = .returned (.int .i64 (mostN l)) ∧ w = w' := by
 have HR := Lib.hid h
 have HL := Lib.hid h.1
 have HB := Lib.hid hb
 clear h hb
 go_enter Tryz.func131, Tryz.ntmps131
 go_wp2_with fail
 go_loop [3, 4] (fun m q => ∃ k : Nat, k ≤ n ∧ q = .int .i64 k ∧ m = .int .i64 (mostN (l.take k))) (fun _ q => n - (intOf q).toNat)
 case atStart => exact ⟨0, Nat.zero_le _, rfl, rfl⟩
 case round =>
  obtain ⟨k, hk, rfl, rfl⟩ := hrel
  by_cases hlt : k < n
  · obtain ⟨b, o, x, rfl, hx, hc⟩ := HR.out.at_ hlt
    have hxb := HB.out x (List.mem_of_getElem? hx)
    have HNX := Lib.hid (mostN_next hx)
    have i1 : (0 : Int) ≤ (k : Int) := by omega
    have i2 : (k : Int) < (n : Int) := by omega
    clear hx
    generalize mostN (l.take k) = m at *
    have HM := Lib.hid (show (if m < x + 1 then x + 1 else m) = max m (x + 1) by split <;> omega)
    go_wp2_with fail
    go_round
    case rel => exact ⟨k + 1, by omega, by go_num, by rw [HNX.out, ← HM.out]⟩
    case measure => simp [intOf]; omega
  · obtain rfl : n = k := by omega
    have HE := Lib.hid (show mostN (l.take n) = mostN l by rw [List.take_of_length_le (by rw [HL.out]; exact Nat.le_refl _)])
    go_wp2
    go_ret
    exact ⟨ret_int HE.out, rfl⟩
def prevOf (ls : List (List Int)) (i : Nat) : Option (List Int) := if i = 0 then none else ls[i - 1]?
theorem prevOf_zero (ls : List (List Int)) : prevOf ls 0 = none := rfl
theorem prevOf_succ (ls : List (List Int)) (j : Nat) : prevOf ls (j + 1) = ls[j]? := rfl
theorem lvlCode_len {n : Nat} {p : Option (List Int)} {l : List Int} (h : l.length ≠ n) : lvlCode n p l = 1 := by unfold lvlCode; rw [if_pos h]
theorem lvlCode_no {n : Nat} {p : Option (List Int)} {l : List Int} (h : l.length = n) (hn : ¬ (LvlOk n l ∧ ∀ q, p = some q → NestOk q l)) : lvlCode n p l = 10 := by
 unfold lvlCode; rw [if_neg (fun e => e h), if_neg hn]
theorem lvlCode_ok {n : Nat} {p : Option (List Int)} {l : List Int} (h : LvlOk n l) (hn : ∀ q, p = some q → NestOk q l) : lvlCode n p l = 0 := by
 unfold lvlCode; rw [if_neg (fun e => e h.len), if_pos ⟨h, hn⟩]


set_option maxHeartbeats 2000000 in
set_option maxRecDepth 20000 in
theorem checkLevel_any (Q : Option Addr) (n L cq i : Nat) (ls : List (List Int)) (l : List Int) (w : World) (h : RdT w Q L ls) (hl : ls[i]? = some l) (hn : n ≤ 4096) (hL : L ≤ 1000000) (hprev : ∀ j p, i = j + 1 → ls[j]? = some p → p.length = n) :
 Calls Tryz.prog 92 #[.int .i64 n, .agg #[.slice Q L cq], .int .i64 ((i : Int) + 1), .slice none 0 0] w fun e w' => e = .returned (.int .i64 (lvlCode n (prevOf ls i) l)) ∧ Below w.heap.size w w' := by
 have hi : i < L := by rw [← h.1]; exact (List.getElem?_eq_some_iff.1 hl).1
 have HT := Lib.hid h
 obtain ⟨b, o, A, m, c, l', rfl, hl', hc, hr, q1, q2⟩ := h.at_ hi
 rw [hl] at hl'
 cases hl'
 have HR := Lib.hid hr
 have HLEN := Lib.hid hr.1
 have HLL := Lib.hid hl
 have HPV := Lib.hid hprev
 have hca := fun ob => Below.cellOf (show Below w.heap.size w (w.alloc ob) from bELt) (Nat.le_refl _) hc
 have i1 : (0 : Int) ≤ (i : Int) := by omega
 have i2 : (i : Int) < (L : Int) := by omega
 have i5 : (i : Int) + 1 - 1 = (i : Int) := by omega
 have hmk := run_makeI n (by omega)
 clear h hr hl hprev q1
 by_cases hmn : m = n
 rotate_left
 · have e1 : ((m : Int) != (n : Int)) = true := by simp; omega
   have e2 : ((m : Int) == (n : Int)) = false := by simp; omega
   have HC := Lib.hid (lvlCode_len (n := n) (p := prevOf ls i) (l := l) (by rw [HLEN.out]; exact hmn))
   go_enter Tryz.func92, Tryz.ntmps92
   go_wp2_with fail
   go_ret
   exact ⟨ret_int HC.out.symm, bELt⟩
 subst hmn
 go_enter Tryz.func92, Tryz.ntmps92
 go_wp2_with fail
 (refine wp_named ?_; intro w1 hw1)
 have hb1 : Below w.heap.size w w1 := by rw [hw1]; exact bELt
 have hQ : Blk w1 w.heap.size 29 #[.slice (some ⟨b, o, none⟩) L cq] := by rw [hw1]; exact bLNt
 have HR1 := Lib.hid (HR.out.below hb1)
 clear hw1 hca
 go_loop [10] (fun q => ∃ k : Nat, k ≤ m ∧ q = .int .i64 k ∧ ∀ j x, j < k → l[j]? = some x → 0 ≤ x ∧ x < m) (fun q => m - (intOf q).toNat)
 case atStart => exact ⟨0, Nat.zero_le _, rfl, fun _ _ h => absurd h (Nat.not_lt_zero _)⟩
 case round =>
  obtain ⟨k, hk, rfl, hall⟩ := hrel
  have HA := Lib.hid hall
  clear hall
  by_cases hlt : k < m
  · obtain ⟨b', o', x, rfl, hx, hcx⟩ := HR1.out.at_ hlt
    have j1 : (0 : Int) ≤ (k : Int) := by omega
    have j2 : (k : Int) < (m : Int) := by omega
    have HX := Lib.hid hx
    clear hx
    by_cases hok : 0 ≤ x ∧ x < m
    · have g0 := hok.1
      have g1 := hok.2
      have HOK := Lib.hid hok
      clear hok
      go_wp2_with fail
      go_round
      case rel => exact ⟨k + 1, by omega, by go_num, fun j y hj hy => by
       by_cases e : j = k
       · subst e
         rw [HX.out] at hy
         cases hy
         exact HOK.out
       · exact HA.out j y (by omega) hy⟩
      case measure => simp [intOf]; omega
    · have HC := Lib.hid (lvlCode_no (n := m) (p := prevOf ls i) (l := l) HLEN.out (fun hh => hok ⟨hh.1.lo x (List.mem_of_getElem? HX.out), hh.1.hi x (List.mem_of_getElem? HX.out)⟩))
      by_cases hx0 : x < 0
      · clear hok
        go_wp2_with fail
        go_ret
        exact ⟨ret_int HC.out.symm, hb1⟩
      · have hx1 : ¬ x < m := by omega
        have hx2 : x ≥ m := by omega
        clear hok
        go_wp2_with fail
        go_ret
        exact ⟨ret_int HC.out.symm, hb1⟩
  · obtain rfl : m = k := by omega
    have HN := Lib.hid (show ∀ x ∈ l, 0 ≤ x ∧ x < m from fun x hx => by
     obtain ⟨j, hj⟩ := List.getElem?_of_mem hx
     exact HA.out j x (by rw [← HLEN.out]; exact (List.getElem?_eq_some_iff.1 hj).1) hj)
    clear HA
    go_wp2_with fail
    (refine wp_named ?_; intro w2 hw2)
    have hb2 : Below w1.heap.size w1 w2 := by rw [hw2]; exact bELt
    have hQ2 := hQ.below hb2 hQ.lt
    have hB2 : Blk w2 w1.heap.size 3 (ints (cntI (l.take 0) m)) := by rw [hw2, List.take_zero, cntI_zero]; exact Blk.new _ _ _
    have hbw2 := Bel.step hb1 hb2
    have hz12 := hb1.size
    clear hw2 hmk
    go_loopw [12] (fun q W => Below w1.heap.size w1 W ∧ ∃ k : Nat, k ≤ m ∧ q = .int .i64 k ∧ Blk W w1.heap.size 3 (ints (cntI (l.take k) m))) (fun q _ => m - (intOf q).toNat)
    case atStart => exact ⟨hb2, 0, Nat.zero_le _, rfl, hB2⟩
    case round =>
     clear hb2 hB2 hQ2 hbw2
     obtain ⟨hbl, k, hk, rfl, hB⟩ := hrel
     by_cases hlt2 : k < m
     · obtain ⟨b', o', x, rfl, hx, hcx⟩ := HR1.out.at_ hlt2
       have hxx := HN.out x (List.mem_of_getElem? hx)
       obtain ⟨v, rfl⟩ : ∃ v : Nat, x = v := ⟨x.toNat, by omega⟩
       have hv : v < m := by omega
       have hcx2 := Below.cellOf hbl (Nat.le_refl _) hcx
       have c1 := hB.cellI (cntI_get (l := l.take k) hv)
       have c1f := hB.frozen v
       have d1 := cntI_bd l k (v : Int)
       have HBN := Lib.hid (hB.setI (cntI_next hx hv))
       have j1 : (0 : Int) ≤ (k : Int) := by omega
       have j2 : (k : Int) < (m : Int) := by omega
       have j3 : (0 : Int) ≤ (v : Int) := by omega
       have j4 : (v : Int) < (m : Int) := by omega
       clear hx hcx hB hxx
       generalize (l.take k).countP (fun x => x == (v : Int)) = p at *
       have hbn : Below w1.heap.size w1 (wr.setCell ⟨w1.heap.size, v, none⟩ (.int .i64 ((p : Int) + 1))) := hbl.setCell (Nat.le_refl _) _
       go_wp2_with fail
       go_roundw
       case rel => exact ⟨hbn, k + 1, by omega, by go_num, HBN.out⟩
       case measure => simp [intOf]; omega
     · obtain rfl : m = k := by omega
       rw [List.take_of_length_le (by rw [HLEN.out]; exact Nat.le_refl _)] at hB
       have m0 := mostN_nonneg l
       have m1 := mostN_le (l := l) (n := (m : Int)) (fun x hx => (HN.out x hx).2) (by omega)
       obtain ⟨w3, hw3⟩ : ∃ w3, w3 = wr := ⟨_, rfl⟩
       subst hw3
       have hbw3 := Bel.step hb1 hbl
       have HMO := Lib.hid (most_any A m c l w3 (HR.out.below hbw3) (by omega) (fun x hx => by have := HN.out x hx; omega))
       obtain ⟨M, hM⟩ : ∃ M : Nat, mostN l = M := ⟨(mostN l).toNat, by omega⟩
       rw [hM] at HMO m0 m1
       have HMM := Lib.hid hM
       clear hM
       go_wp2_with fail
       go_loop [13] (fun q => ∃ k : Nat, k ≤ M ∧ q = .int .i64 k ∧ ∀ c : Nat, c < k → (c : Int) ∈ l) (fun q => M - (intOf q).toNat)
       case atStart => exact ⟨0, Nat.zero_le _, rfl, fun _ h => absurd h (Nat.not_lt_zero _)⟩
       case round =>
        obtain ⟨k, hk, rfl, hall⟩ := hrel
        have HA := Lib.hid hall
        clear hall
        go_wp2_with fail
        with_reducible refine HMO.out.mono ?_
        rintro e w' ⟨rfl, rfl⟩
        by_cases hlt3 : k < M
        · have hkm : k < m := by omega
          have c1 := hB.cellI (cntI_get (l := l) hkm)
          have j1 : (0 : Int) ≤ (k : Int) := by omega
          have j2 : (k : Int) < (m : Int) := by omega
          have HCT := Lib.hid (show 0 < l.countP (fun x => x == (k : Int)) ↔ (k : Int) ∈ l from by rw [List.countP_pos_iff]; simp)
          generalize l.countP (fun x => x == (k : Int)) = p at *
          by_cases hp : p = 0
          · subst hp
            have HC := Lib.hid (lvlCode_no (n := m) (p := prevOf ls i) (l := l) HLEN.out (fun hh => by
             have := HCT.out.2 (hh.1.all k (by rw [HMM.out]; omega))
             omega))
            go_wp2_with fail
            go_ret
            exact ⟨ret_int HC.out.symm, hbw3⟩
          · have e1 : ((p : Int) == 0) = false := by simp; exact hp
            have HP := Lib.hid (HCT.out.1 (by omega))
            clear hp
            go_wp2_with fail
            go_round
            case rel => exact ⟨k + 1, by omega, by go_num, fun c hc => by
             by_cases e : c = k
             · subst e; exact HP.out
             · exact HA.out c (by omega)⟩
            case measure => simp [intOf]; omega
        · obtain rfl : M = k := by omega
          have HLV := Lib.hid (show LvlOk m l from ⟨HLEN.out, fun x hx => (HN.out x hx).1, fun x hx => (HN.out x hx).2, fun c hc => HA.out c (by rw [HMM.out] at hc; omega)⟩)
          have hQ3 := hQ.below hbl hQ.lt
          clear HA HN hB
          have q0 := hQ3.cell 0
          simp only [List.getElem?_toArray, List.getElem?_cons_zero] at q0
          have HRw := Lib.hid (HR.out.below hbw3)
          by_cases hi0 : i = 0
          · have HC := Lib.hid (lvlCode_ok (n := m) (p := prevOf ls i) HLV.out (fun q hq => by rw [hi0, prevOf_zero] at hq; cases hq))
            have e1 : ¬ ((i : Int) + 1 > 1) := by omega
            have e2 : ¬ (0 < i) := by omega
            have e3 : ¬ ((i : Int) > 0) := by omega
            clear hi0
            have hb99 : Below w3.heap.size w3 w3 := Below.refl _ _
            by_cases hm0 : 0 < m
            · skip
              go_wp2_with fail
              go_loop [14] (fun q => q = .int .i64 0) (fun _ => 0)
              case atStart => rfl
              case round =>
               subst hrel
               go_wp2_with fail
               go_loop [16] (fun q => q = .int .i64 0) (fun _ => 0)
               case atStart => rfl
               case round =>
                subst hrel
                go_wp2_with fail
                all_goals
                 go_ret
                 exact ⟨ret_int HC.out.symm, Bel.step hbw3 hb99⟩
            · skip
              go_wp2_with fail
              go_loop [14] (fun q => q = .int .i64 0) (fun _ => 0)
              case atStart => rfl
              case round =>
               subst hrel
               go_wp2_with fail
               go_loop [16] (fun q => q = .int .i64 0) (fun _ => 0)
               case atStart => rfl
               case round =>
                subst hrel
                go_wp2_with fail
                all_goals
                 go_ret
                 exact ⟨ret_int HC.out.symm, Bel.step hbw3 hb99⟩
          · obtain ⟨j, rfl⟩ : ∃ j, i = j + 1 := ⟨i - 1, by omega⟩
            obtain ⟨bp, op, A', m', c', p, e, hp, hcp, hrp, q1', q2'⟩ := HT.out.at_ (show j < L by omega)
            cases e
            obtain rfl : m = m' := by rw [← hrp.1]; exact (HPV.out j p rfl hp).symm
            have HPP := Lib.hid hp
            have HRp := Lib.hid (hrp.below hbw3)
            have HCP := Lib.hid (Below.cellOf hbw3 (Nat.le_refl _) hcp)
            have i3 : ((j : Int) + 1 + 1) - 2 = (j : Int) := by omega
            have i4 : (0 : Int) ≤ (j : Int) := by omega
            have i6 : (j : Int) < (L : Int) := by omega
            have i7 : (j : Int) + 1 + 1 > 1 := by omega
            have HLp := Lib.hid hrp.1
            clear hrp hp hcp q1' hi0
            go_wp2_with fail
            go_loopw [14] (fun q W => Below w3.heap.size w3 W ∧ ∃ k : Nat, k ≤ m ∧ q = .int .i64 k ∧ ∀ (a v : Nat) (x y u z : Int), a < k → p[a]? = some x → p[v]? = some y → l[a]? = some u → l[v]? = some z → x ≤ y → u ≤ z) (fun q _ => m - (intOf q).toNat)
            case atStart => exact ⟨Below.refl _ _, 0, Nat.zero_le _, rfl, fun _ _ _ _ _ _ h => absurd h (Nat.not_lt_zero _)⟩
            case round =>
             obtain ⟨hbr, k, hk, rfl, hall⟩ := hrel
             have HA := Lib.hid hall
             clear hall
             by_cases hlt4 : k < m
             · obtain ⟨pb, po, x, rfl, hx, hcx⟩ := HRp.out.at_ hlt4
               obtain ⟨lb, lo, u, rfl, hu, hcu⟩ := HRw.out.at_ hlt4
               have k1 : (0 : Int) ≤ (k : Int) := by omega
               have k2 : (k : Int) < (m : Int) := by omega
               have HX := Lib.hid hx
               have HU := Lib.hid hu
               clear hx hu
               obtain ⟨wo, hwo⟩ : ∃ wo, wo = wr := ⟨_, rfl⟩
               subst hwo
               go_wp2_with fail
               go_loopw [15] (fun q W => Below w3.heap.size w3 W ∧ ∃ v : Nat, v ≤ m ∧ q = .int .i64 v ∧ ∀ (v' : Nat) (y z : Int), v' < v → p[v']? = some y → l[v']? = some z → x ≤ y → u ≤ z) (fun q _ => m - (intOf q).toNat)
               case atStart => exact ⟨hbr, 0, Nat.zero_le _, rfl, fun _ _ _ h => absurd h (Nat.not_lt_zero _)⟩
               case round =>
                clear hbr
                obtain ⟨hbr, v, hv, rfl, hall⟩ := hrel
                have HV := Lib.hid hall
                clear hall
                by_cases hlt5 : v < m
                · obtain ⟨pb', po', y, e, hy, hcy⟩ := HRp.out.at_ hlt5
                  cases e
                  obtain ⟨lb', lo', z, e, hz, hcz⟩ := HRw.out.at_ hlt5
                  cases e
                  have HY := Lib.hid hy
                  have HZ := Lib.hid hz
                  have q0' := Below.cellOf hbr (Nat.le_refl _) q0
                  have hcp' := Below.cellOf hbr (Nat.le_refl _) HCP.out
                  have hcx' := Below.cellOf hbr (Nat.le_refl _) hcx
                  have hcu' := Below.cellOf hbr (Nat.le_refl _) hcu
                  have hcy' := Below.cellOf hbr (Nat.le_refl _) hcy
                  have hcz' := Below.cellOf hbr (Nat.le_refl _) hcz
                  have k3 : (0 : Int) ≤ (v : Int) := by omega
                  have k4 : (v : Int) < (m : Int) := by omega
                  clear hy hz hcy hcz
                  by_cases hxy : x ≤ y
                  · by_cases huz : u > z
                    · have HC := Lib.hid (lvlCode_no (n := m) (p := prevOf ls (j + 1)) (l := l) HLEN.out (fun hh => by
                       have := hh.2 p (by rw [prevOf_succ]; exact HPP.out) k v x y u z HX.out HY.out HU.out HZ.out hxy
                       omega))
                      have e1 : decide (x ≤ y) = true := by simpa using hxy
                      go_wp2_with fail
                      go_quiet (fail)
                      go_wp2_with fail
                      go_ret
                      exact ⟨ret_int HC.out.symm, Bel.step hbw3 (below_drewN hbr _)⟩
                    · have e1 : decide (x ≤ y) = true := by simpa using hxy
                      have HO := Lib.hid huz
                      go_wp2_with fail
                      go_quiet (fail)
                      go_wp2_with fail
                      go_roundw
                      case rel => exact ⟨below_drewN hbr _, v + 1, by omega, by go_num, fun v' y' z' hv' h1 h2 h3 => by
                       by_cases e : v' = v
                       · subst e
                         rw [HZ.out] at h2
                         cases h2
                         have := HO.out
                         omega
                       · exact HV.out v' y' z' (by omega) h1 h2 h3⟩
                      case measure => simp [intOf]; omega
                  · have e1 : decide (x ≤ y) = false := by simpa using hxy
                    have HO := Lib.hid hxy
                    go_wp2_with fail
                    go_quiet (fail)
                    go_wp2_with fail
                    go_roundw
                    case rel => exact ⟨below_drewN hbr _, v + 1, by omega, by go_num, fun v' y' z' hv' h1 h2 h3 => by
                     by_cases e : v' = v
                     · subst e
                       rw [HY.out] at h1
                       cases h1
                       have := HO.out
                       omega
                     · exact HV.out v' y' z' (by omega) h1 h2 h3⟩
                    case measure => simp [intOf]; omega
                · obtain rfl : m = v := by omega
                  go_wp2_with fail
                  go_roundw
                  case rel => exact ⟨hbr, k + 1, by omega, by go_num, fun a v x' y u' z ha h1 h2 h3 h4 h5 => by
                   by_cases e : a = k
                   · subst e
                     rw [HX.out] at h1
                     rw [HU.out] at h3
                     cases h1
                     cases h3
                     exact HV.out v y z (by rw [← HLp.out]; exact (List.getElem?_eq_some_iff.1 h2).1) h2 h4 h5
                   · exact HA.out a v x' y u' z (by omega) h1 h2 h3 h4 h5⟩
                  case measure => simp [intOf]; omega
             · obtain rfl : m = k := by omega
               have HC := Lib.hid (lvlCode_ok (n := m) (p := prevOf ls (j + 1)) HLV.out (fun q hq => by
                rw [prevOf_succ, HPP.out] at hq
                cases hq
                intro a v x y u z h1 h2 h3 h4 h5
                exact HA.out a v x y u z (by rw [← HLp.out]; exact (List.getElem?_eq_some_iff.1 h1).1) h1 h2 h3 h4 h5))
               clear HA
               go_wp2_with fail
               have hb99 := hbr
               go_loop [16] (fun q => q = .int .i64 0) (fun _ => 0)
               case atStart => rfl
               case round =>
                subst hrel
                go_wp2_with fail
                all_goals
                 go_ret
                 exact ⟨ret_int HC.out.symm, Bel.step hbw3 hb99⟩
end Go.Proofs.YtgkeolddpielpaaGreat
